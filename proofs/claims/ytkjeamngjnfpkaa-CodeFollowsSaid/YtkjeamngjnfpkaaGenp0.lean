/- Own text: Genp0. -/
import Derived.Test.YtkjeamngjnfpkaaAmLaw
set_option maxRecDepth 100000
set_option maxHeartbeats 2000000
set_option linter.unusedVariables false
set_option linter.unusedSimpArgs false
namespace Go.Am
open Go
noncomputable def C41L0 (A : Ar) (a46 : List D) : Int → Option ((Int) ⊕ ((Unit) ⊕ (Unit))) := fun v61 =>
 bif (A.zlt v61 (A.len a46)) then
  (gt A (cL 1) a46 v61).bind fun a63 =>
  bif (A.zlt 20 (A.len a63)) then
   some (.inr (.inr ()))
  else
   some (.inl (A.wrp .i64 (A.zadd v61 1)))
 else
  some (.inr (.inl ()))

noncomputable def C41L1 (A : Ar) (a47 : List D) : Int → Option ((Int) ⊕ ((Unit) ⊕ (Unit))) := fun v75 =>
 bif (A.zlt v75 (A.len a47)) then
  (gt A (cL 1) a47 v75).bind fun a77 =>
  bif (A.zlt 20 (A.len a77)) then
   some (.inr (.inr ()))
  else
   some (.inl (A.wrp .i64 (A.zadd v75 1)))
 else
  some (.inr (.inl ()))

noncomputable def C41L2 (A : Ar) (x1 : List D) : Int → Option ((Int) ⊕ ((Unit) ⊕ (Unit))) := fun v42 =>
 bif (A.zlt v42 (A.len x1)) then
  (gt A (cG (lc (cI .i64) (lc (cI .i64) (lc (cL 1) (l1 (cL 1)))))) x1 v42).bind fun (a44, a45, a46, a47) =>
  ((
   bif (A.zlt 20 (A.len a46)) then
    some true
   else
    some (A.zlt 20 (A.len a47)) : Option (Bool))).bind fun v52 =>
  bif v52 then
   some (.inr (.inr ()))
  else
   (iter (C41L0 A a46) 0).bind (Sum.elim (fun _ =>
    (iter (C41L1 A a47) 0).bind (Sum.elim (fun _ =>
     some (.inl (A.wrp .i64 (A.zadd v42 1)))) (fun _ =>
     some (.inr (.inr ()))))) (fun _ =>
    some (.inr (.inr ()))))
 else
  some (.inr (.inl ()))

/-- lineal lineallaw02.Large -/
noncomputable def C41 (A : Ar) (x1 : List D) : Option (Bool) :=
 (iter (C41L2 A x1) 0).bind (Sum.elim (fun _ =>
  some (A.zlt 5 (A.len x1))) (fun _ =>
  some true))

noncomputable def C9L0 (A : Ar) (x5 : List D) : Int → Option ((Int) ⊕ ((Unit) ⊕ (Unit))) := fun v13 =>
 bif (A.zlt v13 (A.len x5)) then
  (gt A (cL 4) x5 v13).bind fun a15 =>
  bif (A.zlt 30 (A.len a15)) then
   some (.inr (.inr ()))
  else
   some (.inl (A.wrp .i64 (A.zadd v13 1)))
 else
  some (.inr (.inl ()))

noncomputable def C9L1 (A : Ar) (x6 : List D) : Int → Option ((Int) ⊕ ((Unit) ⊕ (Unit))) := fun v27 =>
 bif (A.zlt v27 (A.len x6)) then
  (gt A (cL 1) x6 v27).bind fun a29 =>
  bif (A.zlt 20 (A.len a29)) then
   some (.inr (.inr ()))
  else
   some (.inl (A.wrp .i64 (A.zadd v27 1)))
 else
  some (.inr (.inl ()))

/-- lineal lineallaw08.Large -/
noncomputable def C9 (A : Ar) (x1 : Int) (x2 : Int) (x3 : List D) (x4 : List D) (x5 : List D) (x6 : List D) : Option (Bool) :=
 (iter (C9L0 A x5) 0).bind (Sum.elim (fun _ =>
  (iter (C9L1 A x6) 0).bind (Sum.elim (fun _ =>
   ((
    (C41 A [(.agg [(.int .i64 x1), (.int .i64 x2), (.list 1 x3), (.list 1 x4)])]).bind fun r36 =>
    bif r36 then
     some true
    else
     bif (A.zlt 10 (A.len x5)) then
      some true
     else
      some (A.zlt 10 (A.len x6)) : Option (Bool))).bind fun v39 =>
   some v39) (fun _ =>
   some true))) (fun _ =>
  some true))

/-- lineal code.between -/
noncomputable def C47 (A : Ar) (x1 : Int) (x2 : Int) (x3 : Int) : Option (Bool) :=
 ((
  bif (A.zle x1 x2) then
   some (A.zle x2 x3)
  else
   some false : Option (Bool))).bind fun v5 =>
 some v5

/-- lineal code.isRegister$1 -/
noncomputable def C163 (A : Ar) (x1 : Int) : Option (Bool) :=
 (C47 A 0 x1 3).bind fun r3 =>
 some (!r3)

noncomputable def C162L0 (A : Ar) (x1 : List D) : Int → Option ((Int) ⊕ ((Unit) ⊕ (Int))) := fun v10 =>
 bif (A.zlt v10 (A.len x1)) then
  (gt A (cI .i64) x1 v10).bind fun a12 =>
  (C163 A a12).bind fun r17 =>
  bif r17 then
   some (.inr (.inr v10))
  else
   some (.inl (A.wrp .i64 (A.zadd v10 1)))
 else
  some (.inr (.inl ()))

/-- slices.IndexFunc   int int  -/
noncomputable def C162 (A : Ar) (x1 : List D) : Option (Int) :=
 (iter (C162L0 A x1) 0).bind (Sum.elim (fun _ =>
  some (-1)) (fun v19 =>
  some v19))

/-- slices.ContainsFunc   int int  -/
noncomputable def C135 (A : Ar) (x1 : List D) : Option (Bool) :=
 (C162 A x1).bind fun r3 =>
 some (A.zle 0 r3)

/-- lineal code.isRegister -/
noncomputable def C138 (A : Ar) (x1 : List D) : Option (Bool) :=
 (C135 A x1).bind fun r3 =>
 some (!r3)

/-- lineal code.isCell -/
noncomputable def C79 (A : Ar) (x1 : Int) : Option (Bool) :=
 (C47 A 0 x1 2).bind fun r3 =>
 some r3

/-- lineal code.isLine -/
noncomputable def C110 (A : Ar) (x1 : Int) (x2 : Int) (x3 : Int) (x4 : Int) (x5 : Int) : Option (Bool) :=
 bif (A.zeq x1 1) then
  ((
   (C138 A [(.int .i64 x2)]).bind fun r8 =>
   bif r8 then
    (C79 A x3).bind fun r11 =>
    bif r11 then
     some (A.zeq x4 0)
    else
     some false
   else
    some false : Option (Bool))).bind fun v13 =>
  some v13
 else
  bif (A.zeq x1 2) then
   ((
    (C79 A x2).bind fun r17 =>
    bif r17 then
     (C138 A [(.int .i64 x3)]).bind fun r20 =>
     bif r20 then
      some (A.zeq x4 0)
     else
      some false
    else
     some false : Option (Bool))).bind fun v22 =>
   some v22
  else
   bif (A.zeq x1 3) then
    ((
     (C79 A x2).bind fun r26 =>
     bif r26 then
      (C138 A [(.int .i64 x3), (.int .i64 x4)]).bind fun r29 =>
      some r29
     else
      some false : Option (Bool))).bind fun v30 =>
    some v30
   else
    bif (A.zeq x1 4) then
     ((
      (C138 A [(.int .i64 x2)]).bind fun r34 =>
      bif r34 then
       (C47 A 0 x3 9).bind fun r37 =>
       bif r37 then
        some (A.zeq x4 0)
       else
        some false
      else
       some false : Option (Bool))).bind fun v39 =>
     some v39
    else
     bif (A.zeq x1 5) then
      (C138 A [(.int .i64 x2), (.int .i64 x3), (.int .i64 x4)]).bind fun r43 =>
      some r43
     else
      bif (A.zeq x1 6) then
       ((
        (C138 A [(.int .i64 x2)]).bind fun r46 =>
        bif r46 then
         (C47 A 0 x3 (A.wrp .i64 (A.zsub x5 1))).bind fun r49 =>
         bif r49 then
          some (A.zeq x4 0)
         else
          some false
        else
         some false : Option (Bool))).bind fun v51 =>
       some v51
      else
       bif (A.zeq x1 7) then
        ((
         (C138 A [(.int .i64 x2)]).bind fun r55 =>
         bif r55 then
          bif (A.zeq x3 0) then
           some (A.zeq x4 0)
          else
           some false
         else
          some false : Option (Bool))).bind fun v58 =>
        some v58
       else
        some false

/-- lineal code.isCall$1 -/
noncomputable def C109 (A : Ar) (x1 : Int) (x2 : Int) (x3 : Int) (x4 : Int) (x5 : List D) : Option (Bool) :=
 (C110 A x1 x2 x3 x4 (A.len x5)).bind fun r7 =>
 some (!r7)

noncomputable def C137L0 (A : Ar) (x1 : List D) (x2 : List D) : Int → Option ((Int) ⊕ ((Unit) ⊕ (Int))) := fun v14 =>
 bif (A.zlt v14 (A.len x1)) then
  (gt A (cG (lc (cI .i64) (lc (cI .i64) (lc (cI .i64) (l1 (cI .i64)))))) x1 v14).bind fun (a16, a17, a18, a19) =>
  (C109 A a16 a17 a18 a19 x2).bind fun r24 =>
  bif r24 then
   some (.inr (.inr v14))
  else
   some (.inl (A.wrp .i64 (A.zadd v14 1)))
 else
  some (.inr (.inl ()))

/-- slices.IndexFunc   lineal api.Line lineal api.Line  -/
noncomputable def C137 (A : Ar) (x1 : List D) (x2 : List D) : Option (Int) :=
 (iter (C137L0 A x1 x2) 0).bind (Sum.elim (fun _ =>
  some (-1)) (fun v26 =>
  some v26))

/-- slices.ContainsFunc   lineal api.Line lineal api.Line  -/
noncomputable def C108 (A : Ar) (x1 : List D) (x2 : List D) : Option (Bool) :=
 (C137 A x1 x2).bind fun r4 =>
 some (A.zle 0 r4)

/-- lineal code.isCall -/
noncomputable def C50 (A : Ar) (x1 : List D) : Option (Bool) :=
 ((
  (C47 A 1 (A.len x1) 8).bind fun r3 =>
  bif r3 then
   (C108 A x1 x1).bind fun r6 =>
   bif r6 then
    some false
   else
    (gt A (cG (lc (cI .i64) (lc (cI .i64) (lc (cI .i64) (l1 (cI .i64)))))) x1 (A.wrp .i64 (A.zsub (A.len x1) 1))).bind fun (a8, a9, a10, a11) =>
    some (A.zeq a8 7)
  else
   some false : Option (Bool))).bind fun v15 =>
 some v15

/-- lineal code.Valid$1 -/
noncomputable def C49 (A : Ar) (x1 : List D) : Option (Bool) :=
 (C50 A x1).bind fun r3 =>
 some (!r3)

noncomputable def C107L0 (A : Ar) (x1 : List D) : Int → Option ((Int) ⊕ ((Unit) ⊕ (Int))) := fun v10 =>
 bif (A.zlt v10 (A.len x1)) then
  (gt A (cL 4) x1 v10).bind fun a12 =>
  (C49 A a12).bind fun r17 =>
  bif r17 then
   some (.inr (.inr v10))
  else
   some (.inl (A.wrp .i64 (A.zadd v10 1)))
 else
  some (.inr (.inl ()))

/-- slices.IndexFunc     lineal api.Line   lineal api.Line  -/
noncomputable def C107 (A : Ar) (x1 : List D) : Option (Int) :=
 (iter (C107L0 A x1) 0).bind (Sum.elim (fun _ =>
  some (-1)) (fun v19 =>
  some v19))

/-- slices.ContainsFunc     lineal api.Line   lineal api.Line  -/
noncomputable def C48 (A : Ar) (x1 : List D) : Option (Bool) :=
 (C107 A x1).bind fun r3 =>
 some (A.zle 0 r3)

/-- lineal code.Valid -/
noncomputable def C15 (A : Ar) (x1 : List D) : Option (Bool) :=
 ((
  (C47 A 1 (A.len x1) 4).bind fun r3 =>
  bif r3 then
   (C48 A x1).bind fun r6 =>
   some (!r6)
  else
   some false : Option (Bool))).bind fun v7 =>
 some v7

/-- lineal code.isWord$1 -/
noncomputable def C136 (A : Ar) (x1 : Int) (x2 : List D) : Option (Bool) :=
 (C47 A 0 x1 (A.wrp .i64 (A.zsub (A.len x2) 1))).bind fun r4 =>
 some (!r4)

noncomputable def C162aL0 (A : Ar) (x1 : List D) (x2 : List D) : Int → Option ((Int) ⊕ ((Unit) ⊕ (Int))) := fun v11 =>
 bif (A.zlt v11 (A.len x1)) then
  (gt A (cI .i64) x1 v11).bind fun a13 =>
  (C136 A a13 x2).bind fun r18 =>
  bif r18 then
   some (.inr (.inr v11))
  else
   some (.inl (A.wrp .i64 (A.zadd v11 1)))
 else
  some (.inr (.inl ()))

/-- slices.IndexFunc   int int  -/
noncomputable def C162a (A : Ar) (x1 : List D) (x2 : List D) : Option (Int) :=
 (iter (C162aL0 A x1 x2) 0).bind (Sum.elim (fun _ =>
  some (-1)) (fun v20 =>
  some v20))

/-- slices.ContainsFunc   int int  -/
noncomputable def C135a (A : Ar) (x1 : List D) (x2 : List D) : Option (Bool) :=
 (C162a A x1 x2).bind fun r4 =>
 some (A.zle 0 r4)

/-- lineal code.isWord -/
noncomputable def C103 (A : Ar) (x1 : List D) (x2 : List D) : Option (Bool) :=
 ((
  bif (A.zle (A.len x2) 3) then
   (C135a A x2 x1).bind fun r5 =>
   some (!r5)
  else
   some false : Option (Bool))).bind fun v6 =>
 some v6

/-- lineal code.isUse$1 -/
noncomputable def C102 (A : Ar) (x1 : List D) (x2 : List D) : Option (Bool) :=
 (C103 A x2 x1).bind fun r4 =>
 some (!r4)

noncomputable def C134L0 (A : Ar) (x1 : List D) (x2 : List D) : Int → Option ((Int) ⊕ ((Unit) ⊕ (Int))) := fun v11 =>
 bif (A.zlt v11 (A.len x1)) then
  (gt A (cL 1) x1 v11).bind fun a13 =>
  (C102 A a13 x2).bind fun r18 =>
  bif r18 then
   some (.inr (.inr v11))
  else
   some (.inl (A.wrp .i64 (A.zadd v11 1)))
 else
  some (.inr (.inl ()))

/-- slices.IndexFunc     int   int  -/
noncomputable def C134 (A : Ar) (x1 : List D) (x2 : List D) : Option (Int) :=
 (iter (C134L0 A x1 x2) 0).bind (Sum.elim (fun _ =>
  some (-1)) (fun v20 =>
  some v20))

/-- slices.ContainsFunc     int   int  -/
noncomputable def C101 (A : Ar) (x1 : List D) (x2 : List D) : Option (Bool) :=
 (C134 A x1 x2).bind fun r4 =>
 some (A.zle 0 r4)

/-- lineal code.isUse -/
noncomputable def C42 (A : Ar) (x1 : List D) (x2 : List D) : Option (Bool) :=
 ((
  (C47 A 1 (A.len x2) 2).bind fun r4 =>
  bif r4 then
   (C101 A x2 x1).bind fun r7 =>
   some (!r7)
  else
   some false : Option (Bool))).bind fun v8 =>
 some v8

/-- lineal code.checked -/
noncomputable def C89 (A : Ar) (x1 : List D) (x2 : List D) : Option (Int) :=
 (C15 A x1).bind fun r4 =>
 bif r4 then
  (C42 A x1 x2).bind fun r7 =>
  bif r7 then
   some 0
  else
   some 81
 else
  some 80

/-- lineal code.newRun -/
noncomputable def C69 (A : Ar) (x1 : List D) (x2 : List D) : Option (List D × List D) :=
 some (x1, x2)

/--  *lineal code.run .has -/
noncomputable def C70 (A : Ar) (x1 : Int) (x2 : List D) (x3 : List D) (x4 : Int) (x5 : Int) (x6 : Int) (x7 : Int) (x8 : Int) (x9 : Int) (x10 : Int) (x11 : Int) (x12 : Int) (x13 : Int) (x14 : Int) (x15 : Int) (x16 : Int) (x17 : Int) (x18 : Int) (x19 : Int) (x20 : Int) (x21 : Int) (x22 : List D) (x23 : List D) : Option (Bool) :=
 ((
  (C47 A 0 x1 (A.wrp .i64 (A.zsub (A.len x3) 1))).bind fun r25 =>
  bif r25 then
   bif (A.zeq x1 0) then
    (gt A (cL 1) x3 x1).bind fun a29 =>
    some (A.zlt x4 (A.len a29))
   else
    bif (A.zeq x1 1) then
     (gt A (cL 1) x3 x1).bind fun a36 =>
     some (A.zlt x11 (A.len a36))
    else
     none
  else
   some false : Option (Bool))).bind fun v41 =>
 some v41

/--  *lineal code.run .begun$1 -/
noncomputable def C143 (A : Ar) (x1 : Int) (x2 : Int) (x3 : Int) (x4 : Int) (x5 : Int) (x6 : Int) (x7 : Int) : Option (Bool) :=
 ((
  bif (A.zeq x1 x7) then
   some (A.zeq x6 0)
  else
   some false : Option (Bool))).bind fun v9 =>
 some v9

noncomputable def C166L0 (A : Ar) (x1 : Int) (x22 : List D) : Int → Option ((Int) ⊕ ((Unit) ⊕ (Int))) := fun v40 =>
 bif (A.zlt v40 (A.len x22)) then
  (ck (A.zle 0 v40)).bind fun _ =>
  (ck (A.zlt v40 (A.len x22))).bind fun _ =>
  (gc A (cG (lc (cI .i64) (lc (cI .i64) (lc (cI .i64) (lc (cI .i64) (lc (cI .i64) (l1 (cI .i64)))))))) x22 (A.nat v40)).bind fun (a46, a47, a48, a49, a50, a51) =>
  (C143 A a46 a47 a48 a49 a50 a51 x1).bind fun r55 =>
  bif r55 then
   some (.inr (.inr v40))
  else
   some (.inl (A.wrp .i64 (A.zadd v40 1)))
 else
  some (.inr (.inl ()))

/-- slices.IndexFunc   lineal api.Call lineal api.Call  -/
noncomputable def C166 (A : Ar) (x1 : Int) (x2 : List D) (x3 : List D) (x4 : Int) (x5 : Int) (x6 : Int) (x7 : Int) (x8 : Int) (x9 : Int) (x10 : Int) (x11 : Int) (x12 : Int) (x13 : Int) (x14 : Int) (x15 : Int) (x16 : Int) (x17 : Int) (x18 : Int) (x19 : Int) (x20 : Int) (x21 : Int) (x22 : List D) (x23 : List D) : Option (Int) :=
 (iter (C166L0 A x1 x22) 0).bind (Sum.elim (fun _ =>
  some (-1)) (fun v57 =>
  some v57))

/-- slices.ContainsFunc   lineal api.Call lineal api.Call  -/
noncomputable def C142 (A : Ar) (x1 : Int) (x2 : List D) (x3 : List D) (x4 : Int) (x5 : Int) (x6 : Int) (x7 : Int) (x8 : Int) (x9 : Int) (x10 : Int) (x11 : Int) (x12 : Int) (x13 : Int) (x14 : Int) (x15 : Int) (x16 : Int) (x17 : Int) (x18 : Int) (x19 : Int) (x20 : Int) (x21 : Int) (x22 : List D) (x23 : List D) : Option (Bool) :=
 (C166 A x1 x2 x3 x4 x5 x6 x7 x8 x9 x10 x11 x12 x13 x14 x15 x16 x17 x18 x19 x20 x21 x22 x23).bind fun r25 =>
 some (A.zle 0 r25)

/--  *lineal code.run .begun -/
noncomputable def C116 (A : Ar) (x1 : Int) (x2 : List D) (x3 : List D) (x4 : Int) (x5 : Int) (x6 : Int) (x7 : Int) (x8 : Int) (x9 : Int) (x10 : Int) (x11 : Int) (x12 : Int) (x13 : Int) (x14 : Int) (x15 : Int) (x16 : Int) (x17 : Int) (x18 : Int) (x19 : Int) (x20 : Int) (x21 : Int) (x22 : List D) (x23 : List D) : Option (Bool) :=
 (C142 A x1 x2 x3 x4 x5 x6 x7 x8 x9 x10 x11 x12 x13 x14 x15 x16 x17 x18 x19 x20 x21 x22 x23).bind fun r25 =>
 some r25

/-- lineal code.start -/
noncomputable def C117 (A : Ar) : Option (Unit) :=
 some ()

/--  *lineal code.run .swap -/
noncomputable def C118 (A : Ar) (x1 : Int) (x2 : Int) (x3 : Int) (x4 : Int) (x5 : List D) (x6 : List D) (x7 : Int) (x8 : Int) (x9 : Int) (x10 : Int) (x11 : Int) (x12 : Int) (x13 : Int) (x14 : Int) (x15 : Int) (x16 : Int) (x17 : Int) (x18 : Int) (x19 : Int) (x20 : Int) (x21 : Int) (x22 : Int) (x23 : Int) (x24 : Int) (x25 : List D) (x26 : List D) : Option (Int × Int × Int × Int) :=
 (ck (A.zle 0 x2)).bind fun _ =>
 (ck (A.zlt x2 (Int.ofNat 3))).bind fun _ =>
 (gc A (cI .i64) [(.int .i64 x21), (.int .i64 x22), (.int .i64 x23)] (A.nat x2)).bind fun a31 =>
 (ck (A.zle 0 x3)).bind fun _ =>
 (ck (A.zlt x3 (Int.ofNat 4))).bind fun _ =>
 (gc A (cI .i64) [(.int .i64 x9), (.int .i64 x10), (.int .i64 x11), (.int .i64 x12)] (A.nat x3)).bind fun a38 =>
 bif (A.zeq a31 a38) then
  (ck (A.zle 0 x4)).bind fun _ =>
  (ck (A.zlt x4 (Int.ofNat 4))).bind fun _ =>
  (gc A (cI .i64) [(.int .i64 x9), (.int .i64 x10), (.int .i64 x11), (.int .i64 x12)] (A.nat x4)).bind fun a46 =>
  (ck (A.zle 0 x2)).bind fun _ =>
  (ck (A.zlt x2 (Int.ofNat 3))).bind fun _ =>
  some (1, (bif A.zeq x2 (Int.ofNat 0) then a46 else x21), (bif A.zeq x2 (Int.ofNat 1) then a46 else x22), (bif A.zeq x2 (Int.ofNat 2) then a46 else x23))
 else
  some (0, x21, x22, x23)

/--  *lineal code.run .swap -/
noncomputable def C118a (A : Ar) (x1 : Int) (x2 : Int) (x3 : Int) (x4 : Int) (x5 : List D) (x6 : List D) (x7 : Int) (x8 : Int) (x9 : Int) (x10 : Int) (x11 : Int) (x12 : Int) (x13 : Int) (x14 : Int) (x15 : Int) (x16 : Int) (x17 : Int) (x18 : Int) (x19 : Int) (x20 : Int) (x21 : Int) (x22 : Int) (x23 : Int) (x24 : Int) (x25 : List D) (x26 : List D) : Option (Int × Int × Int × Int) :=
 (ck (A.zle 0 x2)).bind fun _ =>
 (ck (A.zlt x2 (Int.ofNat 3))).bind fun _ =>
 (gc A (cI .i64) [(.int .i64 x21), (.int .i64 x22), (.int .i64 x23)] (A.nat x2)).bind fun a31 =>
 (ck (A.zle 0 x3)).bind fun _ =>
 (ck (A.zlt x3 (Int.ofNat 4))).bind fun _ =>
 (gc A (cI .i64) [(.int .i64 x16), (.int .i64 x17), (.int .i64 x18), (.int .i64 x19)] (A.nat x3)).bind fun a38 =>
 bif (A.zeq a31 a38) then
  (ck (A.zle 0 x4)).bind fun _ =>
  (ck (A.zlt x4 (Int.ofNat 4))).bind fun _ =>
  (gc A (cI .i64) [(.int .i64 x16), (.int .i64 x17), (.int .i64 x18), (.int .i64 x19)] (A.nat x4)).bind fun a46 =>
  (ck (A.zle 0 x2)).bind fun _ =>
  (ck (A.zlt x2 (Int.ofNat 3))).bind fun _ =>
  some (1, (bif A.zeq x2 (Int.ofNat 0) then a46 else x21), (bif A.zeq x2 (Int.ofNat 1) then a46 else x22), (bif A.zeq x2 (Int.ofNat 2) then a46 else x23))
 else
  some (0, x21, x22, x23)

/--  *lineal code.run .step -/
noncomputable def C71 (A : Ar) (x1 : Int) (x2 : List D) (x3 : List D) (x4 : List D) (x5 : Int) (x6 : Int) (x7 : Int) (x8 : Int) (x9 : Int) (x10 : Int) (x11 : Int) (x12 : Int) (x13 : Int) (x14 : Int) (x15 : Int) (x16 : Int) (x17 : Int) (x18 : Int) (x19 : Int) (x20 : Int) (x21 : Int) (x22 : Int) (x23 : List D) (x24 : List D) : Option (List D × List D × Int × Int × Int × Int × Int × Int × Int × Int × Int × Int × Int × Int × Int × Int × Int × Int × Int × Int × List D × List D) :=
 bif (A.zeq x1 0) then
  (gt A (cL 1) x4 x1).bind fun a29 =>
  (gt A (cI .i64) a29 x5).bind fun a33 =>
  ((
   bif (A.zeq x6 0) then
    (C116 A x1 x3 x4 x5 x6 x7 x8 x9 x10 x11 x12 x13 x14 x15 x16 x17 x18 x19 x20 x21 x22 x23 x24).bind fun r39 =>
    some (!r39)
   else
    some false : Option (Bool))).bind fun v40 =>
  ((
   bif v40 then
    (C117 A).bind fun () =>
    (ap A x23 [(.agg [(.int .i64 x1), (.int .i64 0), (.int .i64 a33), (.int .i64 0), (.int .i64 (A.wrp .i64 (A.zadd (A.wrp .i64 (A.zmul 2 x22)) 1))), (.int .i64 0)])]).bind fun l44 =>
    (ap A x24 [(.int .i64 0)]).bind fun l48 =>
    some (0, 1, 0, 0, (A.len x23), l44, l48)
   else
    some (x7, x8, x9, x10, x11, x23, x24) : Option (Int × Int × Int × Int × Int × List D × List D))).bind fun (v52, v53, v54, v55, v56, v57, v58) =>
  ((
   bif (A.zlt 0 (A.len x2)) then
    (gt A (cI .i64) x2 a33).bind fun a61 =>
    some (A.zeq a61 x6)
   else
    some false : Option (Bool))).bind fun v65 =>
  ((
   bif v65 then
    (ck (A.zle 0 v56)).bind fun _ =>
    (ck (A.zlt v56 (A.len v58))).bind fun _ =>
    (gc A (cI .i64) v58 (A.nat v56)).bind fun a72 =>
    some (A.lset v58 (A.nat v56) (.int .i64 (A.wrp .i64 (A.zadd x22 1))))
   else
    some v58 : Option (List D))).bind fun v75 =>
  (gt A (cL 4) x3 a33).bind fun a77 =>
  (gt A (cG (lc (cI .i64) (lc (cI .i64) (lc (cI .i64) (l1 (cI .i64)))))) a77 x6).bind fun (a81, a82, a83, a84) =>
  ((
   bif (A.zeq a81 1) then
    (ck (A.zle 0 a83)).bind fun _ =>
    (ck (A.zlt a83 (Int.ofNat 3))).bind fun _ =>
    (gc A (cI .i64) [(.int .i64 x19), (.int .i64 x20), (.int .i64 x21)] (A.nat a83)).bind fun a93 =>
    (ck (A.zle 0 a82)).bind fun _ =>
    (ck (A.zlt a82 (Int.ofNat 4))).bind fun _ =>
    some (x5, (A.wrp .i64 (A.zadd x6 1)), (bif A.zeq a82 (Int.ofNat 0) then a93 else v52), (bif A.zeq a82 (Int.ofNat 1) then a93 else v53), (bif A.zeq a82 (Int.ofNat 2) then a93 else v54), (bif A.zeq a82 (Int.ofNat 3) then a93 else v55), x19, x20, x21, v57)
   else
    ((
     bif (A.zeq a81 2) then
      (ck (A.zle 0 a83)).bind fun _ =>
      (ck (A.zlt a83 (Int.ofNat 4))).bind fun _ =>
      (gc A (cI .i64) [(.int .i64 v52), (.int .i64 v53), (.int .i64 v54), (.int .i64 v55)] (A.nat a83)).bind fun a105 =>
      (ck (A.zle 0 a82)).bind fun _ =>
      (ck (A.zlt a82 (Int.ofNat 3))).bind fun _ =>
      some (x5, (A.wrp .i64 (A.zadd x6 1)), v52, v53, v54, v55, (bif A.zeq a82 (Int.ofNat 0) then a105 else x19), (bif A.zeq a82 (Int.ofNat 1) then a105 else x20), (bif A.zeq a82 (Int.ofNat 2) then a105 else x21), v57)
     else
      ((
       bif (A.zeq a81 3) then
        (C118 A a81 a82 a83 a84 x3 x4 x5 (A.wrp .i64 (A.zadd x6 1)) v52 v53 v54 v55 v56 x12 x13 x14 x15 x16 x17 x18 x19 x20 x21 (A.wrp .i64 (A.zadd x22 1)) v57 v75).bind fun (r114, r115, r116, r117) =>
        some (x5, (A.wrp .i64 (A.zadd x6 1)), v52, v53, v54, r114, r115, r116, r117, v57)
       else
        ((
         bif (A.zeq a81 4) then
          (ck (A.zle 0 a82)).bind fun _ =>
          (ck (A.zlt a82 (Int.ofNat 4))).bind fun _ =>
          some (x5, (A.wrp .i64 (A.zadd x6 1)), (bif A.zeq a82 (Int.ofNat 0) then a83 else v52), (bif A.zeq a82 (Int.ofNat 1) then a83 else v53), (bif A.zeq a82 (Int.ofNat 2) then a83 else v54), (bif A.zeq a82 (Int.ofNat 3) then a83 else v55), v57)
         else
          ((
           bif (A.zeq a81 5) then
            (ck (A.zle 0 a83)).bind fun _ =>
            (ck (A.zlt a83 (Int.ofNat 4))).bind fun _ =>
            (gc A (cI .i64) [(.int .i64 v52), (.int .i64 v53), (.int .i64 v54), (.int .i64 v55)] (A.nat a83)).bind fun a128 =>
            (ck (A.zle 0 a84)).bind fun _ =>
            (ck (A.zlt a84 (Int.ofNat 4))).bind fun _ =>
            (gc A (cI .i64) [(.int .i64 v52), (.int .i64 v53), (.int .i64 v54), (.int .i64 v55)] (A.nat a84)).bind fun a135 =>
            (nk (A.zeq 10 0)).bind fun _ =>
            (ck (A.zle 0 a82)).bind fun _ =>
            (ck (A.zlt a82 (Int.ofNat 4))).bind fun _ =>
            some (x5, (A.wrp .i64 (A.zadd x6 1)), (bif A.zeq a82 (Int.ofNat 0) then (A.rem (A.wrp .i64 (A.zadd a128 a135)) 10) else v52), (bif A.zeq a82 (Int.ofNat 1) then (A.rem (A.wrp .i64 (A.zadd a128 a135)) 10) else v53), (bif A.zeq a82 (Int.ofNat 2) then (A.rem (A.wrp .i64 (A.zadd a128 a135)) 10) else v54), (bif A.zeq a82 (Int.ofNat 3) then (A.rem (A.wrp .i64 (A.zadd a128 a135)) 10) else v55), v57)
           else
            ((
             bif (A.zeq a81 6) then
              (ck (A.zle 0 a82)).bind fun _ =>
              (ck (A.zlt a82 (Int.ofNat 4))).bind fun _ =>
              (gc A (cI .i64) [(.int .i64 v52), (.int .i64 v53), (.int .i64 v54), (.int .i64 v55)] (A.nat a82)).bind fun a149 =>
              ((
               bif (A.zeq a149 0) then
                some a83
               else
                some (A.wrp .i64 (A.zadd x6 1)) : Option (Int))).bind fun v153 =>
              some (x5, v153, v57)
             else
              ((
               bif (A.zeq a81 7) then
                (ck (A.zle 0 v56)).bind fun _ =>
                (ck (A.zlt v56 (A.len v57))).bind fun _ =>
                (ck (A.zle 0 a82)).bind fun _ =>
                (ck (A.zlt a82 (Int.ofNat 4))).bind fun _ =>
                (gc A (cI .i64) [(.int .i64 v52), (.int .i64 v53), (.int .i64 v54), (.int .i64 v55)] (A.nat a82)).bind fun a164 =>
                (gc A (cG (lc (cI .i64) (lc (cI .i64) (lc (cI .i64) (lc (cI .i64) (lc (cI .i64) (l1 (cI .i64)))))))) v57 (A.nat v56)).bind fun (a167, a168, a169, a170, a171, a172) =>
                (gc A (cG (lc (cI .i64) (lc (cI .i64) (lc (cI .i64) (lc (cI .i64) (lc (cI .i64) (l1 (cI .i64)))))))) (A.lset v57 (A.nat v56) (.agg [(.int .i64 a167), (.int .i64 a168), (.int .i64 a169), (.int .i64 a170), (.int .i64 a171), (.int .i64 (A.wrp .i64 (A.zmul 2 (A.wrp .i64 (A.zadd x22 1)))))])) (A.nat v56)).bind fun (a175, a176, a177, a178, a179, a180) =>
                some ((A.wrp .i64 (A.zadd x5 1)), 0, (A.lset (A.lset v57 (A.nat v56) (.agg [(.int .i64 a167), (.int .i64 a168), (.int .i64 a169), (.int .i64 a170), (.int .i64 a171), (.int .i64 (A.wrp .i64 (A.zmul 2 (A.wrp .i64 (A.zadd x22 1)))))])) (A.nat v56) (.agg [(.int .i64 a175), (.int .i64 a176), (.int .i64 a177), (.int .i64 a164), (.int .i64 a179), (.int .i64 a180)])))
               else
                some (x5, (A.wrp .i64 (A.zadd x6 1)), v57) : Option (Int × Int × List D))).bind fun (v183, v184, v185) =>
              some (v183, v184, v185) : Option (Int × Int × List D))).bind fun (v187, v188, v189) =>
            some (v187, v188, v52, v53, v54, v55, v189) : Option (Int × Int × Int × Int × Int × Int × List D))).bind fun (v191, v192, v193, v194, v195, v196, v197) =>
          some (v191, v192, v193, v194, v195, v196, v197) : Option (Int × Int × Int × Int × Int × Int × List D))).bind fun (v199, v200, v201, v202, v203, v204, v205) =>
        some (v199, v200, v201, v202, v203, v204, x19, x20, x21, v205) : Option (Int × Int × Int × Int × Int × Int × Int × Int × Int × List D))).bind fun (v207, v208, v209, v210, v211, v212, v213, v214, v215, v216) =>
      some (v207, v208, v209, v210, v211, v212, v213, v214, v215, v216) : Option (Int × Int × Int × Int × Int × Int × Int × Int × Int × List D))).bind fun (v218, v219, v220, v221, v222, v223, v224, v225, v226, v227) =>
    some (v218, v219, v220, v221, v222, v223, v224, v225, v226, v227) : Option (Int × Int × Int × Int × Int × Int × Int × Int × Int × List D))).bind fun (v229, v230, v231, v232, v233, v234, v235, v236, v237, v238) =>
  some (x3, x4, v229, v230, v231, v232, v233, v234, v56, x12, x13, x14, x15, x16, x17, x18, v235, v236, v237, (A.wrp .i64 (A.zadd x22 1)), v238, v75)
 else
  bif (A.zeq x1 1) then
   (gt A (cL 1) x4 x1).bind fun a240 =>
   (gt A (cI .i64) a240 x12).bind fun a244 =>
   ((
    bif (A.zeq x13 0) then
     (C116 A x1 x3 x4 x5 x6 x7 x8 x9 x10 x11 x12 x13 x14 x15 x16 x17 x18 x19 x20 x21 x22 x23 x24).bind fun r250 =>
     some (!r250)
    else
     some false : Option (Bool))).bind fun v251 =>
   ((
    bif v251 then
     (C117 A).bind fun () =>
     (ap A x23 [(.agg [(.int .i64 x1), (.int .i64 0), (.int .i64 a244), (.int .i64 0), (.int .i64 (A.wrp .i64 (A.zadd (A.wrp .i64 (A.zmul 2 x22)) 1))), (.int .i64 0)])]).bind fun l255 =>
     (ap A x24 [(.int .i64 0)]).bind fun l259 =>
     some (0, 1, 0, 0, (A.len x23), l255, l259)
    else
     some (x14, x15, x16, x17, x18, x23, x24) : Option (Int × Int × Int × Int × Int × List D × List D))).bind fun (v263, v264, v265, v266, v267, v268, v269) =>
   ((
    bif (A.zlt 0 (A.len x2)) then
     (gt A (cI .i64) x2 a244).bind fun a272 =>
     some (A.zeq a272 x13)
    else
     some false : Option (Bool))).bind fun v276 =>
   ((
    bif v276 then
     (ck (A.zle 0 v267)).bind fun _ =>
     (ck (A.zlt v267 (A.len v269))).bind fun _ =>
     (gc A (cI .i64) v269 (A.nat v267)).bind fun a283 =>
     some (A.lset v269 (A.nat v267) (.int .i64 (A.wrp .i64 (A.zadd x22 1))))
    else
     some v269 : Option (List D))).bind fun v286 =>
   (gt A (cL 4) x3 a244).bind fun a288 =>
   (gt A (cG (lc (cI .i64) (lc (cI .i64) (lc (cI .i64) (l1 (cI .i64)))))) a288 x13).bind fun (a292, a293, a294, a295) =>
   ((
    bif (A.zeq a292 1) then
     (ck (A.zle 0 a294)).bind fun _ =>
     (ck (A.zlt a294 (Int.ofNat 3))).bind fun _ =>
     (gc A (cI .i64) [(.int .i64 x19), (.int .i64 x20), (.int .i64 x21)] (A.nat a294)).bind fun a304 =>
     (ck (A.zle 0 a293)).bind fun _ =>
     (ck (A.zlt a293 (Int.ofNat 4))).bind fun _ =>
     some (x12, (A.wrp .i64 (A.zadd x13 1)), (bif A.zeq a293 (Int.ofNat 0) then a304 else v263), (bif A.zeq a293 (Int.ofNat 1) then a304 else v264), (bif A.zeq a293 (Int.ofNat 2) then a304 else v265), (bif A.zeq a293 (Int.ofNat 3) then a304 else v266), x19, x20, x21, v268)
    else
     ((
      bif (A.zeq a292 2) then
       (ck (A.zle 0 a294)).bind fun _ =>
       (ck (A.zlt a294 (Int.ofNat 4))).bind fun _ =>
       (gc A (cI .i64) [(.int .i64 v263), (.int .i64 v264), (.int .i64 v265), (.int .i64 v266)] (A.nat a294)).bind fun a316 =>
       (ck (A.zle 0 a293)).bind fun _ =>
       (ck (A.zlt a293 (Int.ofNat 3))).bind fun _ =>
       some (x12, (A.wrp .i64 (A.zadd x13 1)), v263, v264, v265, v266, (bif A.zeq a293 (Int.ofNat 0) then a316 else x19), (bif A.zeq a293 (Int.ofNat 1) then a316 else x20), (bif A.zeq a293 (Int.ofNat 2) then a316 else x21), v268)
      else
       ((
        bif (A.zeq a292 3) then
         (C118a A a292 a293 a294 a295 x3 x4 x5 x6 x7 x8 x9 x10 x11 x12 (A.wrp .i64 (A.zadd x13 1)) v263 v264 v265 v266 v267 x19 x20 x21 (A.wrp .i64 (A.zadd x22 1)) v268 v286).bind fun (r325, r326, r327, r328) =>
         some (x12, (A.wrp .i64 (A.zadd x13 1)), v263, v264, v265, r325, r326, r327, r328, v268)
        else
         ((
          bif (A.zeq a292 4) then
           (ck (A.zle 0 a293)).bind fun _ =>
           (ck (A.zlt a293 (Int.ofNat 4))).bind fun _ =>
           some (x12, (A.wrp .i64 (A.zadd x13 1)), (bif A.zeq a293 (Int.ofNat 0) then a294 else v263), (bif A.zeq a293 (Int.ofNat 1) then a294 else v264), (bif A.zeq a293 (Int.ofNat 2) then a294 else v265), (bif A.zeq a293 (Int.ofNat 3) then a294 else v266), v268)
          else
           ((
            bif (A.zeq a292 5) then
             (ck (A.zle 0 a294)).bind fun _ =>
             (ck (A.zlt a294 (Int.ofNat 4))).bind fun _ =>
             (gc A (cI .i64) [(.int .i64 v263), (.int .i64 v264), (.int .i64 v265), (.int .i64 v266)] (A.nat a294)).bind fun a339 =>
             (ck (A.zle 0 a295)).bind fun _ =>
             (ck (A.zlt a295 (Int.ofNat 4))).bind fun _ =>
             (gc A (cI .i64) [(.int .i64 v263), (.int .i64 v264), (.int .i64 v265), (.int .i64 v266)] (A.nat a295)).bind fun a346 =>
             (nk (A.zeq 10 0)).bind fun _ =>
             (ck (A.zle 0 a293)).bind fun _ =>
             (ck (A.zlt a293 (Int.ofNat 4))).bind fun _ =>
             some (x12, (A.wrp .i64 (A.zadd x13 1)), (bif A.zeq a293 (Int.ofNat 0) then (A.rem (A.wrp .i64 (A.zadd a339 a346)) 10) else v263), (bif A.zeq a293 (Int.ofNat 1) then (A.rem (A.wrp .i64 (A.zadd a339 a346)) 10) else v264), (bif A.zeq a293 (Int.ofNat 2) then (A.rem (A.wrp .i64 (A.zadd a339 a346)) 10) else v265), (bif A.zeq a293 (Int.ofNat 3) then (A.rem (A.wrp .i64 (A.zadd a339 a346)) 10) else v266), v268)
            else
             ((
              bif (A.zeq a292 6) then
               (ck (A.zle 0 a293)).bind fun _ =>
               (ck (A.zlt a293 (Int.ofNat 4))).bind fun _ =>
               (gc A (cI .i64) [(.int .i64 v263), (.int .i64 v264), (.int .i64 v265), (.int .i64 v266)] (A.nat a293)).bind fun a360 =>
               ((
                bif (A.zeq a360 0) then
                 some a294
                else
                 some (A.wrp .i64 (A.zadd x13 1)) : Option (Int))).bind fun v364 =>
               some (x12, v364, v268)
              else
               ((
                bif (A.zeq a292 7) then
                 (ck (A.zle 0 v267)).bind fun _ =>
                 (ck (A.zlt v267 (A.len v268))).bind fun _ =>
                 (ck (A.zle 0 a293)).bind fun _ =>
                 (ck (A.zlt a293 (Int.ofNat 4))).bind fun _ =>
                 (gc A (cI .i64) [(.int .i64 v263), (.int .i64 v264), (.int .i64 v265), (.int .i64 v266)] (A.nat a293)).bind fun a375 =>
                 (gc A (cG (lc (cI .i64) (lc (cI .i64) (lc (cI .i64) (lc (cI .i64) (lc (cI .i64) (l1 (cI .i64)))))))) v268 (A.nat v267)).bind fun (a378, a379, a380, a381, a382, a383) =>
                 (gc A (cG (lc (cI .i64) (lc (cI .i64) (lc (cI .i64) (lc (cI .i64) (lc (cI .i64) (l1 (cI .i64)))))))) (A.lset v268 (A.nat v267) (.agg [(.int .i64 a378), (.int .i64 a379), (.int .i64 a380), (.int .i64 a381), (.int .i64 a382), (.int .i64 (A.wrp .i64 (A.zmul 2 (A.wrp .i64 (A.zadd x22 1)))))])) (A.nat v267)).bind fun (a386, a387, a388, a389, a390, a391) =>
                 some ((A.wrp .i64 (A.zadd x12 1)), 0, (A.lset (A.lset v268 (A.nat v267) (.agg [(.int .i64 a378), (.int .i64 a379), (.int .i64 a380), (.int .i64 a381), (.int .i64 a382), (.int .i64 (A.wrp .i64 (A.zmul 2 (A.wrp .i64 (A.zadd x22 1)))))])) (A.nat v267) (.agg [(.int .i64 a386), (.int .i64 a387), (.int .i64 a388), (.int .i64 a375), (.int .i64 a390), (.int .i64 a391)])))
                else
                 some (x12, (A.wrp .i64 (A.zadd x13 1)), v268) : Option (Int × Int × List D))).bind fun (v394, v395, v396) =>
               some (v394, v395, v396) : Option (Int × Int × List D))).bind fun (v398, v399, v400) =>
             some (v398, v399, v263, v264, v265, v266, v400) : Option (Int × Int × Int × Int × Int × Int × List D))).bind fun (v402, v403, v404, v405, v406, v407, v408) =>
           some (v402, v403, v404, v405, v406, v407, v408) : Option (Int × Int × Int × Int × Int × Int × List D))).bind fun (v410, v411, v412, v413, v414, v415, v416) =>
         some (v410, v411, v412, v413, v414, v415, x19, x20, x21, v416) : Option (Int × Int × Int × Int × Int × Int × Int × Int × Int × List D))).bind fun (v418, v419, v420, v421, v422, v423, v424, v425, v426, v427) =>
       some (v418, v419, v420, v421, v422, v423, v424, v425, v426, v427) : Option (Int × Int × Int × Int × Int × Int × Int × Int × Int × List D))).bind fun (v429, v430, v431, v432, v433, v434, v435, v436, v437, v438) =>
     some (v429, v430, v431, v432, v433, v434, v435, v436, v437, v438) : Option (Int × Int × Int × Int × Int × Int × Int × Int × Int × List D))).bind fun (v440, v441, v442, v443, v444, v445, v446, v447, v448, v449) =>
   some (x3, x4, x5, x6, x7, x8, x9, x10, x11, v440, v441, v442, v443, v444, v445, v267, v446, v447, v448, (A.wrp .i64 (A.zadd x22 1)), v449, v286)
  else
   none

noncomputable def C104L0 (A : Ar) (x3 : List D) (x4 : List D) : (Int × List D × List D × Int × Int × Int × Int × Int × Int × Int × Int × Int × Int × Int × Int × Int × Int × Int × Int × Int × Int × List D × List D) → Option ((Int × List D × List D × Int × Int × Int × Int × Int × Int × Int × Int × Int × Int × Int × Int × Int × Int × Int × Int × Int × Int × List D × List D) ⊕ ((List D × List D × Int × Int × Int × Int × Int × Int × Int × Int × Int × Int × Int × Int × Int × Int × Int × Int × Int × Int × List D × List D) ⊕ (List D × List D × Int × Int × Int × Int × Int × Int × Int × Int × Int × Int × Int × Int × Int × Int × Int × Int × Int × Int × List D × List D × List D × List D × Int × Int × Int × Int × Int × Int × Int × Int × Int × Int × Int × Int × Int × Int × Int × Int × Int × Int × List D × List D))) := fun (v40, v41, v42, v43, v44, v45, v46, v47, v48, v49, v50, v51, v52, v53, v54, v55, v56, v57, v58, v59, v60, v61, v62) =>
 bif (A.zlt v40 (A.len x3)) then
  (gt A (cI .i64) x3 v40).bind fun a64 =>
  (C70 A a64 v41 v42 v43 v44 v45 v46 v47 v48 v49 v50 v51 v52 v53 v54 v55 v56 v57 v58 v59 v60 v61 v62).bind fun r69 =>
  bif r69 then
   (C71 A a64 x4 v41 v42 v43 v44 v45 v46 v47 v48 v49 v50 v51 v52 v53 v54 v55 v56 v57 v58 v59 v60 v61 v62).bind fun (r72, r73, r74, r75, r76, r77, r78, r79, r80, r81, r82, r83, r84, r85, r86, r87, r88, r89, r90, r91, r92, r93) =>
   some (.inl ((A.wrp .i64 (A.zadd v40 1)), r72, r73, r74, r75, r76, r77, r78, r79, r80, r81, r82, r83, r84, r85, r86, r87, r88, r89, r90, r91, r92, r93))
  else
   some (.inr (.inr (v41, v42, v43, v44, v45, v46, v47, v48, v49, v50, v51, v52, v53, v54, v55, v56, v57, v58, v59, v60, v61, v62, v41, v42, v43, v44, v45, v46, v47, v48, v49, v50, v51, v52, v53, v54, v55, v56, v57, v58, v59, v60, v61, v62)))
 else
  some (.inr (.inl (v41, v42, v43, v44, v45, v46, v47, v48, v49, v50, v51, v52, v53, v54, v55, v56, v57, v58, v59, v60, v61, v62)))

/-- lineal code.done -/
noncomputable def C104 (A : Ar) (x1 : List D) (x2 : List D) (x3 : List D) (x4 : List D) : Option (List D × List D × Int × Int × Int × Int × Int × Int × Int × Int × Int × Int × Int × Int × Int × Int × Int × Int × Int × Int × List D × List D × Bool) :=
 (C69 A x1 x2).bind fun (r6, r7) =>
 bif (A.zlt 12 (A.len x3)) then
  some (r6, r7, 0, 0, 0, 0, 0, 0, 0, 0, 0, 0, 0, 0, 0, 0, 0, 0, 0, 0, [], [], false)
 else
  (iter (C104L0 A x3 x4) (0, r6, r7, 0, 0, 0, 0, 0, 0, 0, 0, 0, 0, 0, 0, 0, 0, 0, 0, 0, 0, [], [])).bind (Sum.elim (fun (v94, v95, v96, v97, v98, v99, v100, v101, v102, v103, v104, v105, v106, v107, v108, v109, v110, v111, v112, v113, v114, v115) =>
   some (v94, v95, v96, v97, v98, v99, v100, v101, v102, v103, v104, v105, v106, v107, v108, v109, v110, v111, v112, v113, v114, v115, true)) (fun (v116, v117, v118, v119, v120, v121, v122, v123, v124, v125, v126, v127, v128, v129, v130, v131, v132, v133, v134, v135, v136, v137, v138, v139, v140, v141, v142, v143, v144, v145, v146, v147, v148, v149, v150, v151, v152, v153, v154, v155, v156, v157, v158, v159) =>
   some (v116, v117, v118, v119, v120, v121, v122, v123, v124, v125, v126, v127, v128, v129, v130, v131, v132, v133, v134, v135, v136, v137, false)))

/-- lineal code.Run$1 -/
noncomputable def C45 (A : Ar) (x1 : List D) (x2 : List D) (x3 : Int) (x4 : Int) (x5 : Int) (x6 : Int) (x7 : Int) (x8 : Int) (x9 : Int) (x10 : Int) (x11 : Int) (x12 : Int) (x13 : Int) (x14 : Int) (x15 : Int) (x16 : Int) (x17 : Int) (x18 : Int) (x19 : Int) (x20 : Int) (x21 : List D) (x22 : List D) (x23 : List D) : Option (List D) :=
 some x21

/-- lineal code.behind -/
noncomputable def C44 (A : Ar) (x1 : List D) (x2 : List D) (x3 : List D) (x4 : List D) : Option ((List D) ⊕ (Int)) :=
 (C89 A x1 x2).bind fun r6 =>
 bif (A.zeq r6 0) then
  (C104 A x1 x2 x3 []).bind fun (r9, r10, r11, r12, r13, r14, r15, r16, r17, r18, r19, r20, r21, r22, r23, r24, r25, r26, r27, r28, r29, r30, r31) =>
  bif r31 then
   (C45 A r9 r10 r11 r12 r13 r14 r15 r16 r17 r18 r19 r20 r21 r22 r23 r24 r25 r26 r27 r28 r29 r30 x4).bind fun r34 =>
   some (.inl r34)
  else
   some (.inr 2)
 else
  some (.inr r6)

/-- lineal code.Run -/
noncomputable def C13 (A : Ar) (x1 : List D) (x2 : List D) (x3 : List D) : Option (List D × Int) :=
 ((
  (C44 A x1 x2 x3 []).bind (Sum.elim (fun r5 =>
   some (0, r5)) (fun r6 =>
   some (r6, []))) : Option (Int × List D))).bind fun (v8, v9) =>
 some (v9, v8)

/-- lineal lineallaw08.Sane -/
noncomputable def C10 (A : Ar) : Option (Bool) :=
 (C13 A [(.list 4 [(.agg [(.int .i64 1), (.int .i64 0), (.int .i64 0), (.int .i64 0)]), (.agg [(.int .i64 5), (.int .i64 2), (.int .i64 0), (.int .i64 1)]), (.agg [(.int .i64 2), (.int .i64 0), (.int .i64 2), (.int .i64 0)]), (.agg [(.int .i64 7), (.int .i64 0), (.int .i64 0), (.int .i64 0)])])] [(.list 1 [(.int .i64 0)]), (.list 1 [(.int .i64 0)])] [(.int .i64 0), (.int .i64 0), (.int .i64 1), (.int .i64 1), (.int .i64 0), (.int .i64 0), (.int .i64 1), (.int .i64 1)]).bind fun (r2, r3) =>
 ((
  bif (A.zeq r3 0) then
   bif (A.zeq (A.len r2) 2) then
    (gc A (cG (lc (cI .i64) (lc (cI .i64) (lc (cI .i64) (lc (cI .i64) (lc (cI .i64) (l1 (cI .i64)))))))) r2 0).bind fun (a6, a7, a8, a9, a10, a11) =>
    bif (A.deq [(.int .i64 a6), (.int .i64 a7), (.int .i64 a8), (.int .i64 a9), (.int .i64 a10), (.int .i64 a11)] [(.int .i64 0), (.int .i64 0), (.int .i64 0), (.int .i64 0), (.int .i64 1), (.int .i64 12)]) then
     (gc A (cG (lc (cI .i64) (lc (cI .i64) (lc (cI .i64) (lc (cI .i64) (lc (cI .i64) (l1 (cI .i64)))))))) r2 1).bind fun (a15, a16, a17, a18, a19, a20) =>
     some (A.deq [(.int .i64 a15), (.int .i64 a16), (.int .i64 a17), (.int .i64 a18), (.int .i64 a19), (.int .i64 a20)] [(.int .i64 1), (.int .i64 0), (.int .i64 0), (.int .i64 0), (.int .i64 5), (.int .i64 16)])
    else
     some false
   else
    some false
  else
   some false : Option (Bool))).bind fun v23 =>
 some v23

/-- lineal linealref08.within -/
noncomputable def C51 (A : Ar) (x1 : Int) (x2 : Int) (x3 : Int) : Option (Bool) :=
 ((
  bif (A.zle x1 x2) then
   some (A.zle x2 x3)
  else
   some false : Option (Bool))).bind fun v5 =>
 some v5

/-- lineal linealref08.isRegister -/
noncomputable def C111 (A : Ar) (x1 : Int) : Option (Bool) :=
 (C51 A 0 x1 3).bind fun r3 =>
 some r3

/-- lineal linealref08.isCell -/
noncomputable def C82 (A : Ar) (x1 : Int) : Option (Bool) :=
 (C51 A 0 x1 2).bind fun r3 =>
 some r3

/-- lineal linealref08.isNumber -/
noncomputable def C112 (A : Ar) (x1 : Int) : Option (Bool) :=
 (C51 A 0 x1 9).bind fun r3 =>
 some r3

/-- lineal linealref08.isLine -/
noncomputable def C52 (A : Ar) (x1 : Int) (x2 : Int) (x3 : Int) (x4 : Int) (x5 : Int) : Option (Bool) :=
 bif (A.zeq x1 1) then
  ((
   (C111 A x2).bind fun r8 =>
   bif r8 then
    (C82 A x3).bind fun r11 =>
    bif r11 then
     some (A.zeq x4 0)
    else
     some false
   else
    some false : Option (Bool))).bind fun v13 =>
  some v13
 else
  bif (A.zeq x1 2) then
   ((
    (C82 A x2).bind fun r17 =>
    bif r17 then
     (C111 A x3).bind fun r20 =>
     bif r20 then
      some (A.zeq x4 0)
     else
      some false
    else
     some false : Option (Bool))).bind fun v22 =>
   some v22
  else
   bif (A.zeq x1 3) then
    ((
     (C82 A x2).bind fun r26 =>
     bif r26 then
      (C111 A x3).bind fun r29 =>
      bif r29 then
       (C111 A x4).bind fun r32 =>
       some r32
      else
       some false
     else
      some false : Option (Bool))).bind fun v33 =>
    some v33
   else
    bif (A.zeq x1 4) then
     ((
      (C111 A x2).bind fun r37 =>
      bif r37 then
       (C112 A x3).bind fun r40 =>
       bif r40 then
        some (A.zeq x4 0)
       else
        some false
      else
       some false : Option (Bool))).bind fun v42 =>
     some v42
    else
     bif (A.zeq x1 5) then
      ((
       (C111 A x2).bind fun r46 =>
       bif r46 then
        (C111 A x3).bind fun r49 =>
        bif r49 then
         (C111 A x4).bind fun r52 =>
         some r52
        else
         some false
       else
        some false : Option (Bool))).bind fun v53 =>
      some v53
     else
      bif (A.zeq x1 6) then
       ((
        (C111 A x2).bind fun r57 =>
        bif r57 then
         (C51 A 0 x3 (A.wrp .i64 (A.zsub x5 1))).bind fun r60 =>
         bif r60 then
          some (A.zeq x4 0)
         else
          some false
        else
         some false : Option (Bool))).bind fun v62 =>
       some v62
      else
       bif (A.zeq x1 7) then
        ((
         (C111 A x2).bind fun r66 =>
         bif r66 then
          bif (A.zeq x3 0) then
           some (A.zeq x4 0)
          else
           some false
         else
          some false : Option (Bool))).bind fun v69 =>
        some v69
       else
        some false

noncomputable def C16L0 (A : Ar) (a47 : List D) : Int → Option ((Int) ⊕ ((Unit) ⊕ (Unit))) := fun v65 =>
 bif (A.zlt v65 (A.len a47)) then
  (gt A (cG (lc (cI .i64) (lc (cI .i64) (lc (cI .i64) (l1 (cI .i64)))))) a47 v65).bind fun (a67, a68, a69, a70) =>
  (C52 A a67 a68 a69 a70 (A.len a47)).bind fun r75 =>
  bif r75 then
   some (.inl (A.wrp .i64 (A.zadd v65 1)))
  else
   some (.inr (.inr ()))
 else
  some (.inr (.inl ()))

noncomputable def C16L1 (A : Ar) (x1 : List D) : Int → Option ((Int) ⊕ ((Unit) ⊕ (Unit))) := fun v45 =>
 bif (A.zlt v45 (A.len x1)) then
  (gt A (cL 4) x1 v45).bind fun a47 =>
  (C51 A 1 (A.len a47) 8).bind fun r52 =>
  bif r52 then
   (iter (C16L0 A a47) 0).bind (Sum.elim (fun _ =>
    (gt A (cG (lc (cI .i64) (lc (cI .i64) (lc (cI .i64) (l1 (cI .i64)))))) a47 (A.wrp .i64 (A.zsub (A.len a47) 1))).bind fun (a78, a79, a80, a81) =>
    bif (A.zeq a78 7) then
     some (.inl (A.wrp .i64 (A.zadd v45 1)))
    else
     some (.inr (.inr ()))) (fun _ =>
    some (.inr (.inr ()))))
  else
   some (.inr (.inr ()))
 else
  some (.inr (.inl ()))

/-- lineal linealref08.Valid -/
noncomputable def C16 (A : Ar) (x1 : List D) : Option (Bool) :=
 (C51 A 1 (A.len x1) 4).bind fun r3 =>
 bif r3 then
  (iter (C16L1 A x1) 0).bind (Sum.elim (fun _ =>
   some true) (fun _ =>
   some false))
 else
  some false

noncomputable def C43L0 (A : Ar) (x1 : List D) (a32 : List D) : Int → Option ((Int) ⊕ ((Unit) ⊕ (Unit))) := fun v45 =>
 bif (A.zlt v45 (A.len a32)) then
  (gt A (cI .i64) a32 v45).bind fun a47 =>
  (C51 A 0 a47 (A.wrp .i64 (A.zsub (A.len x1) 1))).bind fun r52 =>
  bif r52 then
   some (.inl (A.wrp .i64 (A.zadd v45 1)))
  else
   some (.inr (.inr ()))
 else
  some (.inr (.inl ()))

noncomputable def C43L1 (A : Ar) (x1 : List D) (x2 : List D) : Int → Option ((Int) ⊕ ((Unit) ⊕ (Unit))) := fun v30 =>
 bif (A.zlt v30 (A.len x2)) then
  (gt A (cL 1) x2 v30).bind fun a32 =>
  bif (A.zlt 3 (A.len a32)) then
   some (.inr (.inr ()))
  else
   (iter (C43L0 A x1 a32) 0).bind (Sum.elim (fun _ =>
    some (.inl (A.wrp .i64 (A.zadd v30 1)))) (fun _ =>
    some (.inr (.inr ()))))
 else
  some (.inr (.inl ()))

/-- lineal linealref08.IsUse -/
noncomputable def C43 (A : Ar) (x1 : List D) (x2 : List D) : Option (Bool) :=
 (C51 A 1 (A.len x2) 2).bind fun r4 =>
 bif r4 then
  (iter (C43L1 A x1 x2) 0).bind (Sum.elim (fun _ =>
   some true) (fun _ =>
   some false))
 else
  some false

/-- lineal linealref08.Begin -/
noncomputable def C76 (A : Ar) (x1 : List D) (x2 : List D) (x3 : List D) : Option (List D × List D × List D × List D) :=
 (ck (A.zeq (A.len x2) (A.len x2))).bind fun _ =>
 (ck (A.zle 0 (A.len x2))).bind fun _ =>
 (ck (A.fits (A.len x2))).bind fun _ =>
 some (x1, x2, x3, (A.rep (A.len x2) (.agg [(.int .i64 0), (.int .i64 0), (.bool false), (.int .i64 0), (.int .i64 0), (.int .i64 0), (.int .i64 0), (.int .i64 0)])))

/--  *lineal linealref08.Play .HasLine -/
noncomputable def C57 (A : Ar) (x1 : Int) (x2 : List D) (x3 : List D) (x4 : List D) (x5 : Int) (x6 : Int) (x7 : Int) (x8 : Int) (x9 : List D) (x10 : List D) (x11 : List D) : Option (Bool) :=
 ((
  (ck (A.zle 0 x1)).bind fun _ =>
  (ck (A.zlt x1 (A.len x9))).bind fun _ =>
  (gc A (cG (lc (cI .i64) (lc (cI .i64) (lc cB (lc (cI .i64) (lc (cI .i64) (lc (cI .i64) (lc (cI .i64) (l1 (cI .i64)))))))))) x9 (A.nat x1)).bind fun (a16, a17, a18, a19, a20, a21, a22, a23) =>
  bif a18 then
   some true
  else
   (ck (A.zle 0 x1)).bind fun _ =>
   (ck (A.zlt x1 (A.len x9))).bind fun _ =>
   (gt A (cL 1) x3 x1).bind fun a31 =>
   some (A.zlt a16 (A.len a31)) : Option (Bool))).bind fun v35 =>
 some v35

/--  *lineal linealref08.Play .Step -/
noncomputable def C78 (A : Ar) (x1 : Int) (x2 : List D) (x3 : List D) (x4 : List D) (x5 : Int) (x6 : Int) (x7 : Int) (x8 : Int) (x9 : List D) (x10 : List D) (x11 : List D) : Option (List D × List D × List D × Int × Int × Int × Int × List D × List D × List D) :=
 (ck (A.zle 0 x1)).bind fun _ =>
 (ck (A.zlt x1 (A.len x9))).bind fun _ =>
 (gc A (cG (lc (cI .i64) (lc (cI .i64) (lc cB (lc (cI .i64) (lc (cI .i64) (lc (cI .i64) (lc (cI .i64) (l1 (cI .i64)))))))))) x9 (A.nat x1)).bind fun (a16, a17, a18, a19, a20, a21, a22, a23) =>
 ((
  bif a18 then
   some (x9, x10, x11)
  else
   (gt A (cL 1) x3 x1).bind fun a27 =>
   (gc A (cG (lc (cI .i64) (lc (cI .i64) (lc cB (lc (cI .i64) (lc (cI .i64) (lc (cI .i64) (lc (cI .i64) (l1 (cI .i64)))))))))) (A.lset x9 (A.nat x1) (.agg [(.int .i64 (A.wrp .i64 (A.zadd a16 1))), (.int .i64 0), (.bool true), (.int .i64 (A.len x10)), (.int .i64 0), (.int .i64 1), (.int .i64 0), (.int .i64 0)])) (A.nat x1)).bind fun (a31, a32, a33, a34, a35, a36, a37, a38) =>
   (gt A (cI .i64) a27 (A.wrp .i64 (A.zsub a31 1))).bind fun a41 =>
   (ap A x10 [(.agg [(.int .i64 x1), (.int .i64 0), (.int .i64 a41), (.int .i64 0), (.int .i64 (A.wrp .i64 (A.zadd (A.wrp .i64 (A.zmul 2 x5)) 1))), (.int .i64 0)])]).bind fun l45 =>
   (ap A x11 [(.int .i64 (-1))]).bind fun l49 =>
   some ((A.lset x9 (A.nat x1) (.agg [(.int .i64 (A.wrp .i64 (A.zadd a16 1))), (.int .i64 0), (.bool true), (.int .i64 (A.len x10)), (.int .i64 0), (.int .i64 1), (.int .i64 0), (.int .i64 0)])), l45, l49) : Option (List D × List D × List D))).bind fun (v53, v54, v55) =>
 (gc A (cG (lc (cI .i64) (lc (cI .i64) (lc cB (lc (cI .i64) (lc (cI .i64) (lc (cI .i64) (lc (cI .i64) (l1 (cI .i64)))))))))) v53 (A.nat x1)).bind fun (a57, a58, a59, a60, a61, a62, a63, a64) =>
 (ck (A.zle 0 a60)).bind fun _ =>
 (ck (A.zlt a60 (A.len v54))).bind fun _ =>
 (gc A (cG (lc (cI .i64) (lc (cI .i64) (lc (cI .i64) (lc (cI .i64) (lc (cI .i64) (l1 (cI .i64)))))))) v54 (A.nat a60)).bind fun (a71, a72, a73, a74, a75, a76) =>
 (gt A (cL 4) x2 a73).bind fun a79 =>
 (gt A (cG (lc (cI .i64) (lc (cI .i64) (lc (cI .i64) (l1 (cI .i64)))))) a79 a58).bind fun (a83, a84, a85, a86) =>
 ((
  bif (A.zeq a83 1) then
   (ck (A.zle 0 a85)).bind fun _ =>
   (ck (A.zlt a85 (Int.ofNat 3))).bind fun _ =>
   (gc A (cI .i64) [(.int .i64 x6), (.int .i64 x7), (.int .i64 x8)] (A.nat a85)).bind fun a95 =>
   (ck (A.zle 0 a84)).bind fun _ =>
   (ck (A.zlt a84 (Int.ofNat 4))).bind fun _ =>
   (gc A (cG (lc (cI .i64) (lc (cI .i64) (lc cB (lc (cI .i64) (lc (cI .i64) (lc (cI .i64) (lc (cI .i64) (l1 (cI .i64)))))))))) (A.lset v53 (A.nat x1) (.agg [(.int .i64 a57), (.int .i64 (A.wrp .i64 (A.zadd a58 1))), (.bool a59), (.int .i64 a60), (.int .i64 a61), (.int .i64 a62), (.int .i64 a63), (.int .i64 a64)])) (A.nat x1)).bind fun (a102, a103, a104, a105, a106, a107, a108, a109) =>
   some (x6, x7, x8, (A.lset (A.lset v53 (A.nat x1) (.agg [(.int .i64 a57), (.int .i64 (A.wrp .i64 (A.zadd a58 1))), (.bool a59), (.int .i64 a60), (.int .i64 a61), (.int .i64 a62), (.int .i64 a63), (.int .i64 a64)])) (A.nat x1) (.agg [(.int .i64 a102), (.int .i64 a103), (.bool a104), (.int .i64 a105), (.int .i64 (bif A.zeq a84 (Int.ofNat 0) then a95 else a106)), (.int .i64 (bif A.zeq a84 (Int.ofNat 1) then a95 else a107)), (.int .i64 (bif A.zeq a84 (Int.ofNat 2) then a95 else a108)), (.int .i64 (bif A.zeq a84 (Int.ofNat 3) then a95 else a109))])), v54)
  else
   ((
    bif (A.zeq a83 2) then
     (ck (A.zle 0 a85)).bind fun _ =>
     (ck (A.zlt a85 (Int.ofNat 4))).bind fun _ =>
     (gc A (cG (lc (cI .i64) (lc (cI .i64) (lc cB (lc (cI .i64) (lc (cI .i64) (lc (cI .i64) (lc (cI .i64) (l1 (cI .i64)))))))))) (A.lset v53 (A.nat x1) (.agg [(.int .i64 a57), (.int .i64 (A.wrp .i64 (A.zadd a58 1))), (.bool a59), (.int .i64 a60), (.int .i64 a61), (.int .i64 a62), (.int .i64 a63), (.int .i64 a64)])) (A.nat x1)).bind fun (a120, a121, a122, a123, a124, a125, a126, a127) =>
     (gc A (cI .i64) [(.int .i64 a124), (.int .i64 a125), (.int .i64 a126), (.int .i64 a127)] (A.nat a85)).bind fun a117 =>
     (ck (A.zle 0 a84)).bind fun _ =>
     (ck (A.zlt a84 (Int.ofNat 3))).bind fun _ =>
     some ((bif A.zeq a84 (Int.ofNat 0) then a117 else x6), (bif A.zeq a84 (Int.ofNat 1) then a117 else x7), (bif A.zeq a84 (Int.ofNat 2) then a117 else x8), (A.lset v53 (A.nat x1) (.agg [(.int .i64 a57), (.int .i64 (A.wrp .i64 (A.zadd a58 1))), (.bool a59), (.int .i64 a60), (.int .i64 a61), (.int .i64 a62), (.int .i64 a63), (.int .i64 a64)])), v54)
    else
     ((
      bif (A.zeq a83 3) then
       (ck (A.zle 0 a84)).bind fun _ =>
       (ck (A.zlt a84 (Int.ofNat 3))).bind fun _ =>
       (gc A (cI .i64) [(.int .i64 x6), (.int .i64 x7), (.int .i64 x8)] (A.nat a84)).bind fun a139 =>
       (ck (A.zle 0 a85)).bind fun _ =>
       (ck (A.zlt a85 (Int.ofNat 4))).bind fun _ =>
       (gc A (cG (lc (cI .i64) (lc (cI .i64) (lc cB (lc (cI .i64) (lc (cI .i64) (lc (cI .i64) (lc (cI .i64) (l1 (cI .i64)))))))))) (A.lset v53 (A.nat x1) (.agg [(.int .i64 a57), (.int .i64 (A.wrp .i64 (A.zadd a58 1))), (.bool a59), (.int .i64 a60), (.int .i64 a61), (.int .i64 a62), (.int .i64 a63), (.int .i64 a64)])) (A.nat x1)).bind fun (a149, a150, a151, a152, a153, a154, a155, a156) =>
       (gc A (cI .i64) [(.int .i64 a153), (.int .i64 a154), (.int .i64 a155), (.int .i64 a156)] (A.nat a85)).bind fun a146 =>
       ((
        bif (A.zeq a139 a146) then
         (ck (A.zle 0 a86)).bind fun _ =>
         (ck (A.zlt a86 (Int.ofNat 4))).bind fun _ =>
         (gc A (cI .i64) [(.int .i64 a153), (.int .i64 a154), (.int .i64 a155), (.int .i64 a156)] (A.nat a86)).bind fun a164 =>
         (ck (A.zle 0 a84)).bind fun _ =>
         (ck (A.zlt a84 (Int.ofNat 3))).bind fun _ =>
         some (1, (bif A.zeq a84 (Int.ofNat 0) then a164 else x6), (bif A.zeq a84 (Int.ofNat 1) then a164 else x7), (bif A.zeq a84 (Int.ofNat 2) then a164 else x8))
        else
         some (0, x6, x7, x8) : Option (Int × Int × Int × Int))).bind fun (v171, v172, v173, v174) =>
       some (v172, v173, v174, (A.lset (A.lset v53 (A.nat x1) (.agg [(.int .i64 a57), (.int .i64 (A.wrp .i64 (A.zadd a58 1))), (.bool a59), (.int .i64 a60), (.int .i64 a61), (.int .i64 a62), (.int .i64 a63), (.int .i64 a64)])) (A.nat x1) (.agg [(.int .i64 a149), (.int .i64 a150), (.bool a151), (.int .i64 a152), (.int .i64 a153), (.int .i64 a154), (.int .i64 a155), (.int .i64 v171)])), v54)
      else
       ((
        bif (A.zeq a83 4) then
         (ck (A.zle 0 a84)).bind fun _ =>
         (ck (A.zlt a84 (Int.ofNat 4))).bind fun _ =>
         (gc A (cG (lc (cI .i64) (lc (cI .i64) (lc cB (lc (cI .i64) (lc (cI .i64) (lc (cI .i64) (lc (cI .i64) (l1 (cI .i64)))))))))) (A.lset v53 (A.nat x1) (.agg [(.int .i64 a57), (.int .i64 (A.wrp .i64 (A.zadd a58 1))), (.bool a59), (.int .i64 a60), (.int .i64 a61), (.int .i64 a62), (.int .i64 a63), (.int .i64 a64)])) (A.nat x1)).bind fun (a181, a182, a183, a184, a185, a186, a187, a188) =>
         some ((A.lset (A.lset v53 (A.nat x1) (.agg [(.int .i64 a57), (.int .i64 (A.wrp .i64 (A.zadd a58 1))), (.bool a59), (.int .i64 a60), (.int .i64 a61), (.int .i64 a62), (.int .i64 a63), (.int .i64 a64)])) (A.nat x1) (.agg [(.int .i64 a181), (.int .i64 a182), (.bool a183), (.int .i64 a184), (.int .i64 (bif A.zeq a84 (Int.ofNat 0) then a85 else a185)), (.int .i64 (bif A.zeq a84 (Int.ofNat 1) then a85 else a186)), (.int .i64 (bif A.zeq a84 (Int.ofNat 2) then a85 else a187)), (.int .i64 (bif A.zeq a84 (Int.ofNat 3) then a85 else a188))])), v54)
        else
         ((
          bif (A.zeq a83 5) then
           (ck (A.zle 0 a85)).bind fun _ =>
           (ck (A.zlt a85 (Int.ofNat 4))).bind fun _ =>
           (gc A (cG (lc (cI .i64) (lc (cI .i64) (lc cB (lc (cI .i64) (lc (cI .i64) (lc (cI .i64) (lc (cI .i64) (l1 (cI .i64)))))))))) (A.lset v53 (A.nat x1) (.agg [(.int .i64 a57), (.int .i64 (A.wrp .i64 (A.zadd a58 1))), (.bool a59), (.int .i64 a60), (.int .i64 a61), (.int .i64 a62), (.int .i64 a63), (.int .i64 a64)])) (A.nat x1)).bind fun (a199, a200, a201, a202, a203, a204, a205, a206) =>
           (gc A (cI .i64) [(.int .i64 a203), (.int .i64 a204), (.int .i64 a205), (.int .i64 a206)] (A.nat a85)).bind fun a196 =>
           (ck (A.zle 0 a86)).bind fun _ =>
           (ck (A.zlt a86 (Int.ofNat 4))).bind fun _ =>
           (gc A (cI .i64) [(.int .i64 a203), (.int .i64 a204), (.int .i64 a205), (.int .i64 a206)] (A.nat a86)).bind fun a213 =>
           (nk (A.zeq 10 0)).bind fun _ =>
           (ck (A.zle 0 a84)).bind fun _ =>
           (ck (A.zlt a84 (Int.ofNat 4))).bind fun _ =>
           some ((A.lset (A.lset v53 (A.nat x1) (.agg [(.int .i64 a57), (.int .i64 (A.wrp .i64 (A.zadd a58 1))), (.bool a59), (.int .i64 a60), (.int .i64 a61), (.int .i64 a62), (.int .i64 a63), (.int .i64 a64)])) (A.nat x1) (.agg [(.int .i64 a199), (.int .i64 a200), (.bool a201), (.int .i64 a202), (.int .i64 (bif A.zeq a84 (Int.ofNat 0) then (A.rem (A.wrp .i64 (A.zadd a196 a213)) 10) else a203)), (.int .i64 (bif A.zeq a84 (Int.ofNat 1) then (A.rem (A.wrp .i64 (A.zadd a196 a213)) 10) else a204)), (.int .i64 (bif A.zeq a84 (Int.ofNat 2) then (A.rem (A.wrp .i64 (A.zadd a196 a213)) 10) else a205)), (.int .i64 (bif A.zeq a84 (Int.ofNat 3) then (A.rem (A.wrp .i64 (A.zadd a196 a213)) 10) else a206))])), v54)
          else
           ((
            bif (A.zeq a83 6) then
             (ck (A.zle 0 a84)).bind fun _ =>
             (ck (A.zlt a84 (Int.ofNat 4))).bind fun _ =>
             (gc A (cG (lc (cI .i64) (lc (cI .i64) (lc cB (lc (cI .i64) (lc (cI .i64) (lc (cI .i64) (lc (cI .i64) (l1 (cI .i64)))))))))) (A.lset v53 (A.nat x1) (.agg [(.int .i64 a57), (.int .i64 (A.wrp .i64 (A.zadd a58 1))), (.bool a59), (.int .i64 a60), (.int .i64 a61), (.int .i64 a62), (.int .i64 a63), (.int .i64 a64)])) (A.nat x1)).bind fun (a230, a231, a232, a233, a234, a235, a236, a237) =>
             (gc A (cI .i64) [(.int .i64 a234), (.int .i64 a235), (.int .i64 a236), (.int .i64 a237)] (A.nat a84)).bind fun a227 =>
             ((
              bif (A.zeq a227 0) then
               some (A.lset (A.lset v53 (A.nat x1) (.agg [(.int .i64 a57), (.int .i64 (A.wrp .i64 (A.zadd a58 1))), (.bool a59), (.int .i64 a60), (.int .i64 a61), (.int .i64 a62), (.int .i64 a63), (.int .i64 a64)])) (A.nat x1) (.agg [(.int .i64 a230), (.int .i64 a85), (.bool a232), (.int .i64 a233), (.int .i64 a234), (.int .i64 a235), (.int .i64 a236), (.int .i64 a237)]))
              else
               some (A.lset v53 (A.nat x1) (.agg [(.int .i64 a57), (.int .i64 (A.wrp .i64 (A.zadd a58 1))), (.bool a59), (.int .i64 a60), (.int .i64 a61), (.int .i64 a62), (.int .i64 a63), (.int .i64 a64)])) : Option (List D))).bind fun v241 =>
             some (v241, v54)
            else
             ((
              bif (A.zeq a83 7) then
               (gc A (cG (lc (cI .i64) (lc (cI .i64) (lc cB (lc (cI .i64) (lc (cI .i64) (lc (cI .i64) (lc (cI .i64) (l1 (cI .i64)))))))))) (A.lset v53 (A.nat x1) (.agg [(.int .i64 a57), (.int .i64 (A.wrp .i64 (A.zadd a58 1))), (.bool a59), (.int .i64 a60), (.int .i64 a61), (.int .i64 a62), (.int .i64 a63), (.int .i64 a64)])) (A.nat x1)).bind fun (a244, a245, a246, a247, a248, a249, a250, a251) =>
               (ck (A.zle 0 a247)).bind fun _ =>
               (ck (A.zlt a247 (A.len v54))).bind fun _ =>
               (gc A (cG (lc (cI .i64) (lc (cI .i64) (lc (cI .i64) (lc (cI .i64) (lc (cI .i64) (l1 (cI .i64)))))))) v54 (A.nat a247)).bind fun (a258, a259, a260, a261, a262, a263) =>
               (ck (A.zle 0 a84)).bind fun _ =>
               (ck (A.zlt a84 (Int.ofNat 4))).bind fun _ =>
               (gc A (cI .i64) [(.int .i64 a248), (.int .i64 a249), (.int .i64 a250), (.int .i64 a251)] (A.nat a84)).bind fun a270 =>
               (ck (A.zle 0 a247)).bind fun _ =>
               (ck (A.zlt a247 (A.len (A.lset v54 (A.nat a247) (.agg [(.int .i64 a258), (.int .i64 a259), (.int .i64 a260), (.int .i64 a261), (.int .i64 a262), (.int .i64 (A.wrp .i64 (A.zadd (A.wrp .i64 (A.zmul 2 x5)) 2)))]))))).bind fun _ =>
               (gc A (cG (lc (cI .i64) (lc (cI .i64) (lc (cI .i64) (lc (cI .i64) (lc (cI .i64) (l1 (cI .i64)))))))) (A.lset v54 (A.nat a247) (.agg [(.int .i64 a258), (.int .i64 a259), (.int .i64 a260), (.int .i64 a261), (.int .i64 a262), (.int .i64 (A.wrp .i64 (A.zadd (A.wrp .i64 (A.zmul 2 x5)) 2)))])) (A.nat a247)).bind fun (a277, a278, a279, a280, a281, a282) =>
               some ((A.lset (A.lset v53 (A.nat x1) (.agg [(.int .i64 a57), (.int .i64 (A.wrp .i64 (A.zadd a58 1))), (.bool a59), (.int .i64 a60), (.int .i64 a61), (.int .i64 a62), (.int .i64 a63), (.int .i64 a64)])) (A.nat x1) (.agg [(.int .i64 a244), (.int .i64 a245), (.bool false), (.int .i64 a247), (.int .i64 a248), (.int .i64 a249), (.int .i64 a250), (.int .i64 a251)])), (A.lset (A.lset v54 (A.nat a247) (.agg [(.int .i64 a258), (.int .i64 a259), (.int .i64 a260), (.int .i64 a261), (.int .i64 a262), (.int .i64 (A.wrp .i64 (A.zadd (A.wrp .i64 (A.zmul 2 x5)) 2)))])) (A.nat a247) (.agg [(.int .i64 a277), (.int .i64 a278), (.int .i64 a279), (.int .i64 a270), (.int .i64 a281), (.int .i64 a282)])))
              else
               some ((A.lset v53 (A.nat x1) (.agg [(.int .i64 a57), (.int .i64 (A.wrp .i64 (A.zadd a58 1))), (.bool a59), (.int .i64 a60), (.int .i64 a61), (.int .i64 a62), (.int .i64 a63), (.int .i64 a64)])), v54) : Option (List D × List D))).bind fun (v285, v286) =>
             some (v285, v286) : Option (List D × List D))).bind fun (v288, v289) =>
           some (v288, v289) : Option (List D × List D))).bind fun (v291, v292) =>
         some (v291, v292) : Option (List D × List D))).bind fun (v294, v295) =>
       some (x6, x7, x8, v294, v295) : Option (Int × Int × Int × List D × List D))).bind fun (v297, v298, v299, v300, v301) =>
     some (v297, v298, v299, v300, v301) : Option (Int × Int × Int × List D × List D))).bind fun (v303, v304, v305, v306, v307) =>
   some (v303, v304, v305, v306, v307) : Option (Int × Int × Int × List D × List D))).bind fun (v309, v310, v311, v312, v313) =>
 ((
  bif (A.zlt a73 (A.len x4)) then
   (gt A (cI .i64) x4 a73).bind fun a316 =>
   some (A.zeq a316 a58)
  else
   some false : Option (Bool))).bind fun v320 =>
 ((
  bif v320 then
   (gc A (cG (lc (cI .i64) (lc (cI .i64) (lc cB (lc (cI .i64) (lc (cI .i64) (lc (cI .i64) (lc (cI .i64) (l1 (cI .i64)))))))))) v312 (A.nat x1)).bind fun (a323, a324, a325, a326, a327, a328, a329, a330) =>
   (ck (A.zle 0 a326)).bind fun _ =>
   (ck (A.zlt a326 (A.len v55))).bind fun _ =>
   (gc A (cI .i64) v55 (A.nat a326)).bind fun a337 =>
   some (A.lset v55 (A.nat a326) (.int .i64 x5))
  else
   some v55 : Option (List D))).bind fun v340 =>
 some (x2, x3, x4, (A.wrp .i64 (A.zadd x5 1)), v309, v310, v311, v312, v313, v340)

noncomputable def C113L0 (A : Ar) (x6 : Int) (a36 : List D) : Int → Option ((Int) ⊕ ((Unit) ⊕ (Unit))) := fun v50 =>
 bif (A.zlt v50 (A.len a36)) then
  (gt A (cI .i64) a36 v50).bind fun a52 =>
  ((
   bif (A.zlt a52 0) then
    some true
   else
    some (A.zle x6 a52) : Option (Bool))).bind fun v57 =>
  bif v57 then
   some (.inr (.inr ()))
  else
   some (.inl (A.wrp .i64 (A.zadd v50 1)))
 else
  some (.inr (.inl ()))

noncomputable def C113L1 (A : Ar) (x2 : Int) (x5 : List D) (x6 : Int) : Int → Option ((Int) ⊕ ((Unit) ⊕ (Unit))) := fun v34 =>
 bif (A.zlt v34 (A.len x5)) then
  (gt A (cL 1) x5 v34).bind fun a36 =>
  bif (A.zeq (A.len a36) x2) then
   (iter (C113L0 A x6 a36) 0).bind (Sum.elim (fun _ =>
    some (.inl (A.wrp .i64 (A.zadd v34 1)))) (fun _ =>
    some (.inr (.inr ()))))
  else
   some (.inr (.inr ()))
 else
  some (.inr (.inl ()))

/-- lineal linealref01.isTable -/
noncomputable def C113 (A : Ar) (x1 : Int) (x2 : Int) (x3 : List D) (x4 : List D) (x5 : List D) (x6 : Int) : Option (Bool) :=
 bif (A.zeq (A.len x5) x1) then
  (iter (C113L1 A x2 x5 x6) 0).bind (Sum.elim (fun _ =>
   some true) (fun _ =>
   some false))
 else
  some false

/-- lineal linealref01.Valid -/
noncomputable def C58 (A : Ar) (x1 : Int) (x2 : Int) (x3 : List D) (x4 : List D) : Option (Bool) :=
 ((
  bif (A.zle 1 x1) then
   bif (A.zle x1 8) then
    bif (A.zle 1 x2) then
     bif (A.zle x2 4) then
      (C113 A x1 x2 x3 x4 x3 x1).bind fun r10 =>
      bif r10 then
       (C113 A x1 x2 x3 x4 x4 6).bind fun r13 =>
       some r13
      else
       some false
     else
      some false
    else
     some false
   else
    some false
  else
   some false : Option (Bool))).bind fun v14 =>
 some v14

/-- lineal spec.between -/
noncomputable def C140 (A : Ar) (x1 : Int) (x2 : Int) (x3 : Int) : Option (Bool) :=
 ((
  bif (A.zle x1 x2) then
   some (A.zle x2 x3)
  else
   some false : Option (Bool))).bind fun v5 =>
 some v5

/-- lineal spec.table$1$1 -/
noncomputable def C165 (A : Ar) (x1 : Int) (x2 : Int) : Option (Bool) :=
 (C140 A 0 x1 x2).bind fun r4 =>
 some (!r4)

noncomputable def C162bL0 (A : Ar) (x1 : List D) (x2 : Int) : Int → Option ((Int) ⊕ ((Unit) ⊕ (Int))) := fun v11 =>
 bif (A.zlt v11 (A.len x1)) then
  (gt A (cI .i64) x1 v11).bind fun a13 =>
  (C165 A a13 x2).bind fun r18 =>
  bif r18 then
   some (.inr (.inr v11))
  else
   some (.inl (A.wrp .i64 (A.zadd v11 1)))
 else
  some (.inr (.inl ()))

/-- slices.IndexFunc   int int  -/
noncomputable def C162b (A : Ar) (x1 : List D) (x2 : Int) : Option (Int) :=
 (iter (C162bL0 A x1 x2) 0).bind (Sum.elim (fun _ =>
  some (-1)) (fun v20 =>
  some v20))

/-- slices.ContainsFunc   int int  -/
noncomputable def C135b (A : Ar) (x1 : List D) (x2 : Int) : Option (Bool) :=
 (C162b A x1 x2).bind fun r4 =>
 some (A.zle 0 r4)

/-- lineal spec.table$1 -/
noncomputable def C164 (A : Ar) (x1 : List D) (x2 : Int) (x3 : Int) (x4 : List D) (x5 : List D) (x6 : Int) : Option (Bool) :=
 ((
  bif (A.zeq (A.len x1) x3) then
   (C135b A x1 x6).bind fun r9 =>
   some r9
  else
   some true : Option (Bool))).bind fun v10 =>
 some v10

noncomputable def C134aL0 (A : Ar) (x1 : List D) (x2 : Int) (x3 : Int) (x4 : List D) (x5 : List D) (x6 : Int) : Int → Option ((Int) ⊕ ((Unit) ⊕ (Int))) := fun v15 =>
 bif (A.zlt v15 (A.len x1)) then
  (gt A (cL 1) x1 v15).bind fun a17 =>
  (C164 A a17 x2 x3 x4 x5 x6).bind fun r22 =>
  bif r22 then
   some (.inr (.inr v15))
  else
   some (.inl (A.wrp .i64 (A.zadd v15 1)))
 else
  some (.inr (.inl ()))

/-- slices.IndexFunc     int   int  -/
noncomputable def C134a (A : Ar) (x1 : List D) (x2 : Int) (x3 : Int) (x4 : List D) (x5 : List D) (x6 : Int) : Option (Int) :=
 (iter (C134aL0 A x1 x2 x3 x4 x5 x6) 0).bind (Sum.elim (fun _ =>
  some (-1)) (fun v24 =>
  some v24))

/-- slices.ContainsFunc     int   int  -/
noncomputable def C101a (A : Ar) (x1 : List D) (x2 : Int) (x3 : Int) (x4 : List D) (x5 : List D) (x6 : Int) : Option (Bool) :=
 (C134a A x1 x2 x3 x4 x5 x6).bind fun r8 =>
 some (A.zle 0 r8)

/-- lineal spec.table -/
noncomputable def C141 (A : Ar) (x1 : Int) (x2 : Int) (x3 : List D) (x4 : List D) (x5 : List D) (x6 : Int) : Option (Bool) :=
 ((
  bif (A.zeq (A.len x5) x1) then
   (C101a A x5 x1 x2 x3 x4 x6).bind fun r9 =>
   some (!r9)
  else
   some false : Option (Bool))).bind fun v10 =>
 some v10

/-- lineal spec.Valid -/
noncomputable def C115 (A : Ar) (x1 : Int) (x2 : Int) (x3 : List D) (x4 : List D) : Option (Bool) :=
 ((
  (C140 A 1 x1 8).bind fun r6 =>
  bif r6 then
   (C140 A 1 x2 4).bind fun r9 =>
   bif r9 then
    (C141 A x1 x2 x3 x4 x3 (A.wrp .i64 (A.zsub x1 1))).bind fun r12 =>
    bif r12 then
     (C141 A x1 x2 x3 x4 x4 5).bind fun r15 =>
     some r15
    else
     some false
   else
    some false
  else
   some false : Option (Bool))).bind fun v16 =>
 some v16

/-- lineal code.specified -/
noncomputable def C68 (A : Ar) (x1 : Int) (x2 : Int) (x3 : List D) (x4 : List D) (x5 : List D) (x6 : List D) : Option (Int) :=
 (C15 A x5).bind fun r8 =>
 bif r8 then
  ((
   (C115 A x1 x2 x3 x4).bind fun r11 =>
   bif r11 then
    some (!(A.zeq x2 (A.len x5)))
   else
    some true : Option (Bool))).bind fun v13 =>
  bif v13 then
   some 10
  else
   (C89 A x5 x6).bind fun r17 =>
   some r17
 else
  some 80

/--  lineal spec.machine .state$1 -/
noncomputable def C144 (A : Ar) (x1 : Int) (x2 : Int) (x3 : Int) (x4 : List D) (x5 : List D) : Option (Bool) :=
 (C140 A 0 x1 (A.wrp .i64 (A.zsub x2 1))).bind fun r7 =>
 some (!r7)

noncomputable def C162cL0 (A : Ar) (x1 : List D) (x2 : Int) (x3 : Int) (x4 : List D) (x5 : List D) : Int → Option ((Int) ⊕ ((Unit) ⊕ (Int))) := fun v14 =>
 bif (A.zlt v14 (A.len x1)) then
  (gt A (cI .i64) x1 v14).bind fun a16 =>
  (C144 A a16 x2 x3 x4 x5).bind fun r21 =>
  bif r21 then
   some (.inr (.inr v14))
  else
   some (.inl (A.wrp .i64 (A.zadd v14 1)))
 else
  some (.inr (.inl ()))

/-- slices.IndexFunc   int int  -/
noncomputable def C162c (A : Ar) (x1 : List D) (x2 : Int) (x3 : Int) (x4 : List D) (x5 : List D) : Option (Int) :=
 (iter (C162cL0 A x1 x2 x3 x4 x5) 0).bind (Sum.elim (fun _ =>
  some (-1)) (fun v23 =>
  some v23))

/-- slices.ContainsFunc   int int  -/
noncomputable def C135c (A : Ar) (x1 : List D) (x2 : Int) (x3 : Int) (x4 : List D) (x5 : List D) : Option (Bool) :=
 (C162c A x1 x2 x3 x4 x5).bind fun r7 =>
 some (A.zle 0 r7)

/--  lineal spec.machine .state -/
noncomputable def C121 (A : Ar) (x1 : Int) (x2 : Int) (x3 : List D) (x4 : List D) (x5 : List D) : Option (Bool) :=
 (C135c A x5 x1 x2 x3 x4).bind fun r7 =>
 some (!r7)

/--  lineal spec.machine .calls$1 -/
noncomputable def C167 (A : Ar) (x1 : Int) (x2 : Int) (x3 : Int) (x4 : List D) (x5 : List D) : Option (Bool) :=
 (C140 A 0 x1 (A.wrp .i64 (A.zsub x3 1))).bind fun r7 =>
 some (!r7)

noncomputable def C162dL0 (A : Ar) (x1 : List D) (x2 : Int) (x3 : Int) (x4 : List D) (x5 : List D) : Int → Option ((Int) ⊕ ((Unit) ⊕ (Int))) := fun v14 =>
 bif (A.zlt v14 (A.len x1)) then
  (gt A (cI .i64) x1 v14).bind fun a16 =>
  (C167 A a16 x2 x3 x4 x5).bind fun r21 =>
  bif r21 then
   some (.inr (.inr v14))
  else
   some (.inl (A.wrp .i64 (A.zadd v14 1)))
 else
  some (.inr (.inl ()))

/-- slices.IndexFunc   int int  -/
noncomputable def C162d (A : Ar) (x1 : List D) (x2 : Int) (x3 : Int) (x4 : List D) (x5 : List D) : Option (Int) :=
 (iter (C162dL0 A x1 x2 x3 x4 x5) 0).bind (Sum.elim (fun _ =>
  some (-1)) (fun v23 =>
  some v23))

/-- slices.ContainsFunc   int int  -/
noncomputable def C135d (A : Ar) (x1 : List D) (x2 : Int) (x3 : Int) (x4 : List D) (x5 : List D) : Option (Bool) :=
 (C162d A x1 x2 x3 x4 x5).bind fun r7 =>
 some (A.zle 0 r7)

/--  lineal spec.machine .calls -/
noncomputable def C145 (A : Ar) (x1 : Int) (x2 : Int) (x3 : List D) (x4 : List D) (x5 : List D) : Option (Bool) :=
 (C135d A x5 x1 x2 x3 x4).bind fun r7 =>
 some (!r7)

/--  lineal spec.machine .word -/
noncomputable def C122 (A : Ar) (x1 : Int) (x2 : Int) (x3 : List D) (x4 : List D) (x5 : List D) : Option (Bool) :=
 ((
  bif (A.zle (A.len x5) 20) then
   (C145 A x1 x2 x3 x4 x5).bind fun r8 =>
   some r8
  else
   some false : Option (Bool))).bind fun v9 =>
 some v9

/-- lineal spec.Run$1 -/
noncomputable def C120 (A : Ar) (x1 : Int) (x2 : Int) (x3 : List D) (x4 : List D) (x5 : Int) (x6 : List D) : Option (Bool) :=
 ((
  (C121 A x1 x2 x3 x4 [(.int .i64 x5)]).bind fun r8 =>
  bif r8 then
   (C122 A x1 x2 x3 x4 x6).bind fun r11 =>
   some r11
  else
   some false : Option (Bool))).bind fun v12 =>
 some v12

/-- lineal spec.opened -/
noncomputable def C119 (A : Ar) (x1 : Int) (x2 : Int) (x3 : List D) (x4 : List D) (x5 : Int) (x6 : List D) : Option (Int × Int × List D × List D × Int) :=
 (C115 A x1 x2 x3 x4).bind fun r8 =>
 bif r8 then
  (C120 A x1 x2 x3 x4 x5 x6).bind fun r11 =>
  bif r11 then
   some (x1, x2, x3, x4, 0)
  else
   some (0, 0, [], [], 2)
 else
  some (0, 0, [], [], 10)

noncomputable def C123L0 (A : Ar) (x3 : List D) (x4 : List D) (x6 : List D) : (Int × List D × Int) → Option ((Int × List D × Int) ⊕ (Int × List D)) := fun (v32, v33, v34) =>
 bif (A.zlt v34 (A.len x6)) then
  (gt A (cI .i64) x6 v34).bind fun a36 =>
  (gt A (cL 1) x4 v32).bind fun a40 =>
  (gt A (cI .i64) a40 a36).bind fun a44 =>
  (ap A v33 [(.int .i64 a44)]).bind fun l48 =>
  (gt A (cL 1) x3 v32).bind fun a52 =>
  (gt A (cI .i64) a52 a36).bind fun a56 =>
  some (.inl (a56, l48, (A.wrp .i64 (A.zadd v34 1))))
 else
  some (.inr (v32, v33))

/--  lineal spec.machine .run -/
noncomputable def C123 (A : Ar) (x1 : Int) (x2 : Int) (x3 : List D) (x4 : List D) (x5 : Int) (x6 : List D) : Option (List D × Int) :=
 (iter (C123L0 A x3 x4 x6) (x5, [], 0)).bind (fun (v60, v61) =>
 some (v61, v60))

/-- lineal spec.Run -/
noncomputable def C72 (A : Ar) (x1 : Int) (x2 : Int) (x3 : List D) (x4 : List D) (x5 : Int) (x6 : List D) : Option (List D × Int × Int) :=
 (C119 A x1 x2 x3 x4 x5 x6).bind fun (r8, r9, r10, r11, r12) =>
 bif (A.zeq r12 0) then
  (C123 A r8 r9 r10 r11 x5 x6).bind fun (r15, r16) =>
  some (r15, r16, 0)
 else
  some ([], 0, r12)

/-- lineal code.Follows$1 -/
noncomputable def C74 (A : Ar) (x1 : Int) (x2 : Int) (x3 : Int) (x4 : Int) (x5 : Int) (x6 : Int) (x7 : Int) : Option (Bool) :=
 some (A.zeq x4 x7)

noncomputable def C73L0 (A : Ar) (x1 : List D) (x22 : List D) : Int → Option ((Int) ⊕ ((Unit) ⊕ (Unit))) := fun v45 =>
 bif (A.zlt v45 (A.len x22)) then
  (ck (A.zle 0 v45)).bind fun _ =>
  (ck (A.zlt v45 (A.len x22))).bind fun _ =>
  (gc A (cG (lc (cI .i64) (lc (cI .i64) (lc (cI .i64) (lc (cI .i64) (lc (cI .i64) (l1 (cI .i64)))))))) x22 (A.nat v45)).bind fun (a51, a52, a53, a54, a55, a56) =>
  (gt A (cI .i64) x1 v45).bind fun a59 =>
  (C74 A a51 a52 a53 a54 a55 a56 a59).bind fun r64 =>
  bif r64 then
   some (.inl (A.wrp .i64 (A.zadd v45 1)))
  else
   some (.inr (.inr ()))
 else
  some (.inr (.inl ()))

/-- slices.EqualFunc   lineal api.Call   int lineal api.Call int  -/
noncomputable def C73 (A : Ar) (x1 : List D) (x2 : List D) (x3 : List D) (x4 : Int) (x5 : Int) (x6 : Int) (x7 : Int) (x8 : Int) (x9 : Int) (x10 : Int) (x11 : Int) (x12 : Int) (x13 : Int) (x14 : Int) (x15 : Int) (x16 : Int) (x17 : Int) (x18 : Int) (x19 : Int) (x20 : Int) (x21 : Int) (x22 : List D) (x23 : List D) : Option (Bool) :=
 bif (A.zeq (A.len x22) (A.len x1)) then
  (iter (C73L0 A x1 x22) 0).bind (Sum.elim (fun _ =>
   some true) (fun _ =>
   some false))
 else
  some false

noncomputable def C27L0 (A : Ar) : (List D × List D × Int × Int × Int × Int × Int × Int × Int × Int × Int × Int × Int × Int × Int × Int × Int × Int × Int × Int × List D × List D) → Option ((List D × List D × Int × Int × Int × Int × Int × Int × Int × Int × Int × Int × Int × Int × Int × Int × Int × Int × Int × Int × List D × List D) ⊕ (List D × List D × Int × Int × Int × Int × Int × Int × Int × Int × Int × Int × Int × Int × Int × Int × Int × Int × Int × Int × List D × List D)) := fun (v41, v42, v43, v44, v45, v46, v47, v48, v49, v50, v51, v52, v53, v54, v55, v56, v57, v58, v59, v60, v61, v62) =>
 ((
  bif (A.zlt v60 12) then
   (C70 A 0 v41 v42 v43 v44 v45 v46 v47 v48 v49 v50 v51 v52 v53 v54 v55 v56 v57 v58 v59 v60 v61 v62).bind fun r65 =>
   some r65
  else
   some false : Option (Bool))).bind fun v66 =>
 bif v66 then
  (C71 A 0 [] v41 v42 v43 v44 v45 v46 v47 v48 v49 v50 v51 v52 v53 v54 v55 v56 v57 v58 v59 v60 v61 v62).bind fun (r70, r71, r72, r73, r74, r75, r76, r77, r78, r79, r80, r81, r82, r83, r84, r85, r86, r87, r88, r89, r90, r91) =>
  some (.inl (r70, r71, r72, r73, r74, r75, r76, r77, r78, r79, r80, r81, r82, r83, r84, r85, r86, r87, r88, r89, r90, r91))
 else
  some (.inr (v41, v42, v43, v44, v45, v46, v47, v48, v49, v50, v51, v52, v53, v54, v55, v56, v57, v58, v59, v60, v61, v62))

/-- lineal code.Follows -/
noncomputable def C27 (A : Ar) (x1 : Int) (x2 : Int) (x3 : List D) (x4 : List D) (x5 : List D) (x6 : List D) : Option (Bool × Int) :=
 (C68 A x1 x2 x3 x4 x5 [(.list 1 x6)]).bind fun r8 =>
 bif (A.zeq r8 81) then
  some (false, 2)
 else
  bif (A.zeq r8 0) then
   (C69 A x5 [(.list 1 x6)]).bind fun (r12, r13) =>
   (iter (C27L0 A) (r12, r13, 0, 0, 0, 0, 0, 0, 0, 0, 0, 0, 0, 0, 0, 0, 0, 0, 0, 0, [], [])).bind (fun (v92, v93, v94, v95, v96, v97, v98, v99, v100, v101, v102, v103, v104, v105, v106, v107, v108, v109, v110, v111, v112, v113) =>
   (C70 A 0 v92 v93 v94 v95 v96 v97 v98 v99 v100 v101 v102 v103 v104 v105 v106 v107 v108 v109 v110 v111 v112 v113).bind fun r116 =>
   bif r116 then
    some (false, 0)
   else
    (C72 A x1 x2 x3 x4 0 x6).bind fun (r119, r120, r121) =>
    ((
     bif (A.zeq r121 0) then
      (C73 A r119 v92 v93 v94 v95 v96 v97 v98 v99 v100 v101 v102 v103 v104 v105 v106 v107 v108 v109 v110 v111 v112 v113).bind fun r124 =>
      some r124
     else
      some false : Option (Bool))).bind fun v125 =>
    some (v125, 0))
  else
   some (false, r8)

/-- lineal linealref08.isSpec -/
noncomputable def C75 (A : Ar) (x1 : Int) (x2 : Int) (x3 : List D) (x4 : List D) (x5 : List D) : Option (Bool) :=
 ((
  (C58 A x1 x2 x3 x4).bind fun r7 =>
  bif r7 then
   some (A.zeq x2 (A.len x5))
  else
   some false : Option (Bool))).bind fun v9 =>
 some v9

noncomputable def C77L0 (A : Ar) (x1 : List D) (x2 : List D) (x3 : List D) (x4 : Int) (x5 : Int) (x6 : Int) (x7 : Int) (x8 : List D) (x9 : List D) (x10 : List D) : Int → Option ((Int) ⊕ ((Unit) ⊕ (Unit))) := fun v15 =>
 bif (A.zlt v15 (A.len x2)) then
  (C57 A v15 x1 x2 x3 x4 x5 x6 x7 x8 x9 x10).bind fun r18 =>
  bif r18 then
   some (.inr (.inr ()))
  else
   some (.inl (A.wrp .i64 (A.zadd v15 1)))
 else
  some (.inr (.inl ()))

/--  *lineal linealref08.Play .Over -/
noncomputable def C77 (A : Ar) (x1 : List D) (x2 : List D) (x3 : List D) (x4 : Int) (x5 : Int) (x6 : Int) (x7 : Int) (x8 : List D) (x9 : List D) (x10 : List D) : Option (Bool) :=
 (iter (C77L0 A x1 x2 x3 x4 x5 x6 x7 x8 x9 x10) 0).bind (Sum.elim (fun _ =>
  some true) (fun _ =>
  some false))

noncomputable def C28L0 (A : Ar) : (Int × List D × List D × List D × Int × Int × Int × Int × List D × List D × List D) → Option ((Int × List D × List D × List D × Int × Int × Int × Int × List D × List D × List D) ⊕ (List D × List D × List D × Int × Int × Int × Int × List D × List D × List D)) := fun (v36, v37, v38, v39, v40, v41, v42, v43, v44, v45, v46) =>
 ((
  bif (A.zlt v36 12) then
   (C77 A v37 v38 v39 v40 v41 v42 v43 v44 v45 v46).bind fun r49 =>
   some (!r49)
  else
   some false : Option (Bool))).bind fun v50 =>
 bif v50 then
  (C78 A 0 v37 v38 v39 v40 v41 v42 v43 v44 v45 v46).bind fun (r54, r55, r56, r57, r58, r59, r60, r61, r62, r63) =>
  some (.inl ((A.wrp .i64 (A.zadd v36 1)), r54, r55, r56, r57, r58, r59, r60, r61, r62, r63))
 else
  some (.inr (v37, v38, v39, v40, v41, v42, v43, v44, v45, v46))

noncomputable def C28L1 (A : Ar) (x3 : List D) (x4 : List D) (v72 : List D) : (Int × Int) → Option ((Int × Int) ⊕ ((Unit) ⊕ (Unit))) := fun (v108, v109) =>
 bif (A.zlt v109 (A.len v72)) then
  (ck (A.zle 0 v109)).bind fun _ =>
  (ck (A.zlt v109 (A.len v72))).bind fun _ =>
  (gc A (cG (lc (cI .i64) (lc (cI .i64) (lc (cI .i64) (lc (cI .i64) (lc (cI .i64) (l1 (cI .i64)))))))) v72 (A.nat v109)).bind fun (a115, a116, a117, a118, a119, a120) =>
  ((
   bif (A.zeq a120 0) then
    some true
   else
    (gt A (cL 1) x4 v108).bind fun a124 =>
    (gt A (cI .i64) a124 a117).bind fun a128 =>
    some (!(A.zeq a128 a118)) : Option (Bool))).bind fun v132 =>
  bif v132 then
   some (.inr (.inr ()))
  else
   (gt A (cL 1) x3 v108).bind fun a135 =>
   (gt A (cI .i64) a135 a117).bind fun a139 =>
   some (.inl (a139, (A.wrp .i64 (A.zadd v109 1))))
 else
  some (.inr (.inl ()))

/-- lineal linealref08.Follows -/
noncomputable def C28 (A : Ar) (x1 : Int) (x2 : Int) (x3 : List D) (x4 : List D) (x5 : List D) (x6 : List D) : Option (Bool × Int) :=
 (C16 A x5).bind fun r8 =>
 bif r8 then
  (C75 A x1 x2 x3 x4 x5).bind fun r11 =>
  bif r11 then
   (C43 A x5 [(.list 1 x6)]).bind fun r14 =>
   bif r14 then
    (C76 A x5 [(.list 1 x6)] []).bind fun (r17, r18, r19, r20) =>
    (iter (C28L0 A) (0, r17, r18, r19, 0, 0, 0, 0, r20, [], [])).bind (fun (v64, v65, v66, v67, v68, v69, v70, v71, v72, v73) =>
    (iter (C28L1 A x3 x4 v72) (0, 0)).bind (Sum.elim (fun _ =>
     (C77 A v64 v65 v66 v67 v68 v69 v70 v71 v72 v73).bind fun r145 =>
     some (r145, 0)) (fun _ =>
     some (false, 0))))
   else
    some (false, 2)
  else
   some (false, 10)
 else
  some (false, 80)

/-- slices.Clone   lineal api.Line lineal api.Line  -/
noncomputable def C81 (A : Ar) (x1 : List D) : Option (List D) :=
 bif (A.zlt 0 (A.len x1)) then
  (ap A [] x1).bind fun l4 =>
  some l4
 else
  both (
   some []) (
   (ap A [] x1).bind fun l8 =>
   some l8)

/-- lineal code.Swapped$1 -/
noncomputable def C80 (A : Ar) (x1 : Int) (x2 : Int) (x3 : Int) (x4 : List D) : Option (List D) :=
 (gc A (cG (lc (cI .i64) (lc (cI .i64) (lc (cI .i64) (l1 (cI .i64)))))) x4 (A.nat x1)).bind fun (a5, a6, a7, a8) =>
 ((
  bif (A.zeq a7 x2) then
   some (A.lset x4 (A.nat x1) (.agg [(.int .i64 a5), (.int .i64 a6), (.int .i64 x3), (.int .i64 a8)]))
  else
   ((
    bif (A.zeq a7 x3) then
     some (A.lset x4 (A.nat x1) (.agg [(.int .i64 a5), (.int .i64 a6), (.int .i64 x2), (.int .i64 a8)]))
    else
     some x4 : Option (List D))).bind fun v13 =>
   some v13 : Option (List D))).bind fun v15 =>
 some v15

/-- lineal code.Swapped$1 -/
noncomputable def C80a (A : Ar) (x1 : Int) (x2 : Int) (x3 : Int) (x4 : List D) : Option (List D) :=
 (gc A (cG (lc (cI .i64) (lc (cI .i64) (lc (cI .i64) (l1 (cI .i64)))))) x4 (A.nat x1)).bind fun (a5, a6, a7, a8) =>
 ((
  bif (A.zeq a6 x2) then
   some (A.lset x4 (A.nat x1) (.agg [(.int .i64 a5), (.int .i64 x3), (.int .i64 a7), (.int .i64 a8)]))
  else
   ((
    bif (A.zeq a6 x3) then
     some (A.lset x4 (A.nat x1) (.agg [(.int .i64 a5), (.int .i64 x2), (.int .i64 a7), (.int .i64 a8)]))
    else
     some x4 : Option (List D))).bind fun v13 =>
   some v13 : Option (List D))).bind fun v15 =>
 some v15

noncomputable def C29L0 (A : Ar) (x2 : Int) (x3 : Int) (r92 : List D) : (Int × List D) → Option ((Int × List D) ⊕ (List D)) := fun (v119, v120) =>
 bif (A.zlt v119 (A.len r92)) then
  (ck (A.zle 0 v119)).bind fun _ =>
  (ck (A.zlt v119 (A.len r92))).bind fun _ =>
  (gc A (cG (lc (cI .i64) (lc (cI .i64) (lc (cI .i64) (l1 (cI .i64)))))) v120 (A.nat (A.zadd 0 v119))).bind fun (a126, a127, a128, a129) =>
  ((
   bif (A.zeq a126 1) then
    (C80 A (A.zadd 0 v119) x2 x3 v120).bind fun r134 =>
    some r134
   else
    ((
     bif (A.zeq a126 2) then
      some true
     else
      some (A.zeq a126 3) : Option (Bool))).bind fun v136 =>
    ((
     bif v136 then
      (C80a A (A.zadd 0 v119) x2 x3 v120).bind fun r140 =>
      some r140
     else
      some v120 : Option (List D))).bind fun v141 =>
    some v141 : Option (List D))).bind fun v143 =>
  some (.inl ((A.wrp .i64 (A.zadd v119 1)), v143))
 else
  some (.inr v120)

noncomputable def C29L1 (A : Ar) (x1 : List D) (x2 : Int) (x3 : Int) : (List D × Int) → Option ((List D × Int) ⊕ (List D)) := fun (v84, v85) =>
 bif (A.zlt v85 (A.len x1)) then
  (gt A (cL 4) x1 v85).bind fun a87 =>
  (C81 A a87).bind fun r92 =>
  bif (A.zlt 0 (A.len r92)) then
   (ck (scalars r92)).bind fun _ =>
   (iter (C29L0 A x2 x3 r92) (0, r92)).bind (fun v145 =>
   (fz A v145 0 (A.len r92)).bind fun l147 =>
   (ap A v84 [(.list 4 l147)]).bind fun l151 =>
   some (.inl (l151, (A.wrp .i64 (A.zadd v85 1)))))
  else
   none
 else
  some (.inr v84)

/-- lineal code.Swapped -/
noncomputable def C29 (A : Ar) (x1 : List D) (x2 : Int) (x3 : Int) : Option (List D × Int) :=
 (C15 A x1).bind fun r5 =>
 bif r5 then
  ((
   (C79 A x2).bind fun r8 =>
   bif r8 then
    (C79 A x3).bind fun r11 =>
    some (!r11)
   else
    some true : Option (Bool))).bind fun v12 =>
  bif v12 then
   some ([], 2)
  else
   (iter (C29L1 A x1 x2 x3) ([], 0)).bind (fun v155 =>
   some (v155, 0))
 else
  some ([], 80)

/-- lineal linealref08.other -/
noncomputable def C83 (A : Ar) (x1 : Int) (x2 : Int) (x3 : Int) : Option (Int) :=
 bif (A.zeq x1 x2) then
  some x3
 else
  bif (A.zeq x1 x3) then
   some x2
  else
   some x1

noncomputable def C30L0 (A : Ar) (x2 : Int) (x3 : Int) (a118 : List D) : (Int × List D) → Option ((Int × List D) ⊕ (List D)) := fun (v165, v166) =>
 bif (A.zlt v165 (A.zadd (A.len []) (A.len a118))) then
  (ck (A.zle 0 v165)).bind fun _ =>
  (ck (A.zlt v165 (A.zadd (A.len []) (A.len a118)))).bind fun _ =>
  (gc A (cG (lc (cI .i64) (lc (cI .i64) (lc (cI .i64) (l1 (cI .i64)))))) v166 (A.nat (A.zadd 0 v165))).bind fun (a172, a173, a174, a175) =>
  ((
   bif (A.zeq a172 1) then
    (ck (A.zle 0 v165)).bind fun _ =>
    (ck (A.zlt v165 (A.zadd (A.len []) (A.len a118)))).bind fun _ =>
    (C83 A a174 x2 x3).bind fun r184 =>
    (ck (A.zle 0 v165)).bind fun _ =>
    (ck (A.zlt v165 (A.zadd (A.len []) (A.len a118)))).bind fun _ =>
    some (A.lset v166 (A.nat (A.zadd 0 v165)) (.agg [(.int .i64 a172), (.int .i64 a173), (.int .i64 r184), (.int .i64 a175)]))
   else
    ((
     bif (A.zeq a172 2) then
      some true
     else
      some (A.zeq a172 3) : Option (Bool))).bind fun v190 =>
    ((
     bif v190 then
      (ck (A.zle 0 v165)).bind fun _ =>
      (ck (A.zlt v165 (A.zadd (A.len []) (A.len a118)))).bind fun _ =>
      (C83 A a173 x2 x3).bind fun r198 =>
      (ck (A.zle 0 v165)).bind fun _ =>
      (ck (A.zlt v165 (A.zadd (A.len []) (A.len a118)))).bind fun _ =>
      some (A.lset v166 (A.nat (A.zadd 0 v165)) (.agg [(.int .i64 a172), (.int .i64 r198), (.int .i64 a174), (.int .i64 a175)]))
     else
      some v166 : Option (List D))).bind fun v203 =>
    some v203 : Option (List D))).bind fun v205 =>
  some (.inl ((A.wrp .i64 (A.zadd v165 1)), v205))
 else
  some (.inr v166)

noncomputable def C30L1 (A : Ar) (x1 : List D) (x2 : Int) (x3 : Int) : (List D × Int) → Option ((List D × Int) ⊕ (List D)) := fun (v115, v116) =>
 bif (A.zlt v116 (A.len x1)) then
  (gt A (cL 4) x1 v116).bind fun a118 =>
  bif (A.zlt 0 (A.len a118)) then
   (ck (A.fits (A.zadd (A.len []) (A.len a118)))).bind fun _ =>
   (iter (C30L0 A x2 x3 a118) (0, (A.app [] a118))).bind (fun v207 =>
   (fz A v207 0 (A.zadd (A.len []) (A.len a118))).bind fun l209 =>
   (ap A v115 [(.list 4 l209)]).bind fun l213 =>
   some (.inl (l213, (A.wrp .i64 (A.zadd v116 1)))))
  else
   none
 else
  some (.inr v115)

/-- lineal linealref08.Swapped -/
noncomputable def C30 (A : Ar) (x1 : List D) (x2 : Int) (x3 : Int) : Option (List D × Int) :=
 (C16 A x1).bind fun r5 =>
 bif r5 then
  ((
   (C82 A x2).bind fun r8 =>
   bif r8 then
    (C82 A x3).bind fun r11 =>
    some (!r11)
   else
    some true : Option (Bool))).bind fun v12 =>
  bif v12 then
   some ([], 2)
  else
   (iter (C30L1 A x1 x2 x3) ([], 0)).bind (fun v217 =>
   some (v217, 0))
 else
  some ([], 80)

noncomputable def C31L0 (A : Ar) (a50 : List D) (a54 : List D) : Int → Option ((Int) ⊕ ((Unit) ⊕ (Unit))) := fun v75 =>
 bif (A.zlt v75 (A.len a50)) then
  (gt A (cG (lc (cI .i64) (lc (cI .i64) (lc (cI .i64) (l1 (cI .i64)))))) a50 v75).bind fun (a77, a78, a79, a80) =>
  (gt A (cG (lc (cI .i64) (lc (cI .i64) (lc (cI .i64) (l1 (cI .i64)))))) a54 v75).bind fun (a84, a85, a86, a87) =>
  bif (A.deq [(.int .i64 a77), (.int .i64 a78), (.int .i64 a79), (.int .i64 a80)] [(.int .i64 a84), (.int .i64 a85), (.int .i64 a86), (.int .i64 a87)]) then
   some (.inl (A.wrp .i64 (A.zadd v75 1)))
  else
   some (.inr (.inr ()))
 else
  some (.inr (.inl ()))

noncomputable def C31L1 (A : Ar) (x1 : List D) (x2 : List D) : Int → Option ((Int) ⊕ ((Unit) ⊕ (Unit))) := fun v48 =>
 bif (A.zlt v48 (A.len x1)) then
  (gt A (cL 4) x1 v48).bind fun a50 =>
  (gt A (cL 4) x2 v48).bind fun a54 =>
  bif (A.zeq (A.len a50) (A.len a54)) then
   (iter (C31L0 A a50 a54) 0).bind (Sum.elim (fun _ =>
    some (.inl (A.wrp .i64 (A.zadd v48 1)))) (fun _ =>
    some (.inr (.inr ()))))
  else
   some (.inr (.inr ()))
 else
  some (.inr (.inl ()))

/-- lineal linealref08.SameCode -/
noncomputable def C31 (A : Ar) (x1 : List D) (x2 : List D) : Option (Bool) :=
 bif (A.zeq (A.len x1) (A.len x2)) then
  (iter (C31L1 A x1 x2) 0).bind (Sum.elim (fun _ =>
   some true) (fun _ =>
   some false))
 else
  some false

/-- lineal lineallaw08.CodeFollows -/
noncomputable def C5 (A : Ar) (x1 : Int) (x2 : Int) (x3 : List D) (x4 : List D) (x5 : List D) (x6 : List D) (x7 : List D) (x8 : Int) (x9 : Int) : Option (Bool) :=
 ((
  (C9 A x1 x2 x3 x4 x5 x6).bind fun r11 =>
  bif r11 then
   some true
  else
   some (A.zlt 60 (A.len x7)) : Option (Bool))).bind fun v13 =>
 bif v13 then
  (C10 A).bind fun r17 =>
  some r17
 else
  (C27 A x1 x2 x3 x4 x5 x7).bind fun (r19, r20) =>
  (C28 A x1 x2 x3 x4 x5 x7).bind fun (r22, r23) =>
  (C29 A x5 x8 x9).bind fun (r25, r26) =>
  (C30 A x5 x8 x9).bind fun (r28, r29) =>
  ((
   bif (A.beq r19 r22) then
    bif (A.zeq r20 r23) then
     (C31 A r25 r28).bind fun r33 =>
     bif r33 then
      bif (A.zeq r26 r29) then
       (C10 A).bind fun r37 =>
       some r37
      else
       some false
     else
      some false
    else
     some false
   else
    some false : Option (Bool))).bind fun v38 =>
  some v38
end Go.Am
