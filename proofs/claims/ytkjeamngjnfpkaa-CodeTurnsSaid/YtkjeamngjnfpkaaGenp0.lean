/- Own text: Genp0. -/
import Derived.Test.YtkjeamngjnfpkaaAmLaw
import Derived.Test.YtkjeamngjnfpkaaAmRoll
import Derived.Test.YtkjeamngjnfpkaaAmRoll
set_option maxRecDepth 100000
set_option maxHeartbeats 2000000
set_option linter.unusedVariables false
set_option linter.unusedSimpArgs false
namespace Go.Am
open Go
noncomputable def C41L0 (A : Ar) (a46 : List D) : Int → Option ((Int) ⊕ ((Unit) ⊕ (Unit))) := fun v61 =>
 bif (A.zlt v61 (A.len a46)) then
  (gt A (cL 1) a46 v61).bind fun a63 =>
  bif (A.zlt 20 (A.len a63)) then
   some (.inr (.inr ()))
  else
   some (.inl (A.wrp .i64 (A.zadd v61 1)))
 else
  some (.inr (.inl ()))

noncomputable def C41L1 (A : Ar) (a47 : List D) : Int → Option ((Int) ⊕ ((Unit) ⊕ (Unit))) := fun v75 =>
 bif (A.zlt v75 (A.len a47)) then
  (gt A (cL 1) a47 v75).bind fun a77 =>
  bif (A.zlt 20 (A.len a77)) then
   some (.inr (.inr ()))
  else
   some (.inl (A.wrp .i64 (A.zadd v75 1)))
 else
  some (.inr (.inl ()))

noncomputable def C41L2 (A : Ar) (x1 : List D) : Int → Option ((Int) ⊕ ((Unit) ⊕ (Unit))) := fun v42 =>
 bif (A.zlt v42 (A.len x1)) then
  (gt A (cG (lc (cI .i64) (lc (cI .i64) (lc (cL 1) (l1 (cL 1)))))) x1 v42).bind fun (a44, a45, a46, a47) =>
  ((
   bif (A.zlt 20 (A.len a46)) then
    some true
   else
    some (A.zlt 20 (A.len a47)) : Option (Bool))).bind fun v52 =>
  bif v52 then
   some (.inr (.inr ()))
  else
   (iter (C41L0 A a46) 0).bind (Sum.elim (fun _ =>
    (iter (C41L1 A a47) 0).bind (Sum.elim (fun _ =>
     some (.inl (A.wrp .i64 (A.zadd v42 1)))) (fun _ =>
     some (.inr (.inr ()))))) (fun _ =>
    some (.inr (.inr ()))))
 else
  some (.inr (.inl ()))

/-- lineal lineallaw02.Large -/
noncomputable def C41 (A : Ar) (x1 : List D) : Option (Bool) :=
 (iter (C41L2 A x1) 0).bind (Sum.elim (fun _ =>
  some (A.zlt 5 (A.len x1))) (fun _ =>
  some true))

noncomputable def C9L0 (A : Ar) (x5 : List D) : Int → Option ((Int) ⊕ ((Unit) ⊕ (Unit))) := fun v13 =>
 bif (A.zlt v13 (A.len x5)) then
  (gt A (cL 4) x5 v13).bind fun a15 =>
  bif (A.zlt 30 (A.len a15)) then
   some (.inr (.inr ()))
  else
   some (.inl (A.wrp .i64 (A.zadd v13 1)))
 else
  some (.inr (.inl ()))

noncomputable def C9L1 (A : Ar) (x6 : List D) : Int → Option ((Int) ⊕ ((Unit) ⊕ (Unit))) := fun v27 =>
 bif (A.zlt v27 (A.len x6)) then
  (gt A (cL 1) x6 v27).bind fun a29 =>
  bif (A.zlt 20 (A.len a29)) then
   some (.inr (.inr ()))
  else
   some (.inl (A.wrp .i64 (A.zadd v27 1)))
 else
  some (.inr (.inl ()))

/-- lineal lineallaw08.Large -/
noncomputable def C9 (A : Ar) (x1 x2 : Int) (x3 x4 x5 x6 : List D) : Option (Bool) :=
 (iter (C9L0 A x5) 0).bind (Sum.elim (fun _ =>
  (iter (C9L1 A x6) 0).bind (Sum.elim (fun _ =>
   ((
    (C41 A [(.agg [(.int .i64 x1), (.int .i64 x2), (.list 1 x3), (.list 1 x4)])]).bind fun r36 =>
    bif r36 then
     some true
    else
     bif (A.zlt 10 (A.len x5)) then
      some true
     else
      some (A.zlt 10 (A.len x6)) : Option (Bool))).bind fun v39 =>
   some v39) (fun _ =>
   some true))) (fun _ =>
  some true))

/-- lineal code.between -/
noncomputable def C47 (A : Ar) (x1 x2 x3 : Int) : Option (Bool) :=
 ((
  bif (A.zle x1 x2) then
   some (A.zle x2 x3)
  else
   some false : Option (Bool))).bind fun v5 =>
 some v5

/-- lineal code.isRegister$1 -/
noncomputable def C163 (A : Ar) (x1 : Int) : Option (Bool) :=
 (C47 A 0 x1 3).bind fun r3 =>
 some (!r3)

noncomputable def C162L0 (A : Ar) (x1 : List D) : Int → Option ((Int) ⊕ ((Unit) ⊕ (Int))) := fun v10 =>
 bif (A.zlt v10 (A.len x1)) then
  (gt A (cI .i64) x1 v10).bind fun a12 =>
  (C163 A a12).bind fun r17 =>
  bif r17 then
   some (.inr (.inr v10))
  else
   some (.inl (A.wrp .i64 (A.zadd v10 1)))
 else
  some (.inr (.inl ()))

/-- slices.IndexFunc   int int  -/
noncomputable def C162 (A : Ar) (x1 : List D) : Option (Int) :=
 (iter (C162L0 A x1) 0).bind (Sum.elim (fun _ =>
  some (-1)) (fun v19 =>
  some v19))

/-- slices.ContainsFunc   int int  -/
noncomputable def C135 (A : Ar) (x1 : List D) : Option (Bool) :=
 (C162 A x1).bind fun r3 =>
 some (A.zle 0 r3)

/-- lineal code.isRegister -/
noncomputable def C138 (A : Ar) (x1 : List D) : Option (Bool) :=
 (C135 A x1).bind fun r3 =>
 some (!r3)

/-- lineal code.isCell -/
noncomputable def C79 (A : Ar) (x1 : Int) : Option (Bool) :=
 (C47 A 0 x1 2).bind fun r3 =>
 some r3

/-- lineal code.isLine -/
noncomputable def C110 (A : Ar) (x1 x2 x3 x4 x5 : Int) : Option (Bool) :=
 bif (A.zeq x1 1) then
  ((
   (C138 A [(.int .i64 x2)]).bind fun r8 =>
   bif r8 then
    (C79 A x3).bind fun r11 =>
    bif r11 then
     some (A.zeq x4 0)
    else
     some false
   else
    some false : Option (Bool))).bind fun v13 =>
  some v13
 else
  bif (A.zeq x1 2) then
   ((
    (C79 A x2).bind fun r17 =>
    bif r17 then
     (C138 A [(.int .i64 x3)]).bind fun r20 =>
     bif r20 then
      some (A.zeq x4 0)
     else
      some false
    else
     some false : Option (Bool))).bind fun v22 =>
   some v22
  else
   bif (A.zeq x1 3) then
    ((
     (C79 A x2).bind fun r26 =>
     bif r26 then
      (C138 A [(.int .i64 x3), (.int .i64 x4)]).bind fun r29 =>
      some r29
     else
      some false : Option (Bool))).bind fun v30 =>
    some v30
   else
    bif (A.zeq x1 4) then
     ((
      (C138 A [(.int .i64 x2)]).bind fun r34 =>
      bif r34 then
       (C47 A 0 x3 9).bind fun r37 =>
       bif r37 then
        some (A.zeq x4 0)
       else
        some false
      else
       some false : Option (Bool))).bind fun v39 =>
     some v39
    else
     bif (A.zeq x1 5) then
      (C138 A [(.int .i64 x2), (.int .i64 x3), (.int .i64 x4)]).bind fun r43 =>
      some r43
     else
      bif (A.zeq x1 6) then
       ((
        (C138 A [(.int .i64 x2)]).bind fun r46 =>
        bif r46 then
         (C47 A 0 x3 (A.wrp .i64 (A.zsub x5 1))).bind fun r49 =>
         bif r49 then
          some (A.zeq x4 0)
         else
          some false
        else
         some false : Option (Bool))).bind fun v51 =>
       some v51
      else
       bif (A.zeq x1 7) then
        ((
         (C138 A [(.int .i64 x2)]).bind fun r55 =>
         bif r55 then
          bif (A.zeq x3 0) then
           some (A.zeq x4 0)
          else
           some false
         else
          some false : Option (Bool))).bind fun v58 =>
        some v58
       else
        some false

/-- lineal code.isCall$1 -/
noncomputable def C109 (A : Ar) (x1 x2 x3 x4 : Int) (x5 : List D) : Option (Bool) :=
 (C110 A x1 x2 x3 x4 (A.len x5)).bind fun r7 =>
 some (!r7)

noncomputable def C137L0 (A : Ar) (x1 x2 : List D) : Int → Option ((Int) ⊕ ((Unit) ⊕ (Int))) := fun v14 =>
 bif (A.zlt v14 (A.len x1)) then
  (gt A (cG (lc (cI .i64) (lc (cI .i64) (lc (cI .i64) (l1 (cI .i64)))))) x1 v14).bind fun (a16, a17, a18, a19) =>
  (C109 A a16 a17 a18 a19 x2).bind fun r24 =>
  bif r24 then
   some (.inr (.inr v14))
  else
   some (.inl (A.wrp .i64 (A.zadd v14 1)))
 else
  some (.inr (.inl ()))

/-- slices.IndexFunc   lineal api.Line lineal api.Line  -/
noncomputable def C137 (A : Ar) (x1 x2 : List D) : Option (Int) :=
 (iter (C137L0 A x1 x2) 0).bind (Sum.elim (fun _ =>
  some (-1)) (fun v26 =>
  some v26))

/-- slices.ContainsFunc   lineal api.Line lineal api.Line  -/
noncomputable def C108 (A : Ar) (x1 x2 : List D) : Option (Bool) :=
 (C137 A x1 x2).bind fun r4 =>
 some (A.zle 0 r4)

/-- lineal code.isCall -/
noncomputable def C50 (A : Ar) (x1 : List D) : Option (Bool) :=
 ((
  (C47 A 1 (A.len x1) 8).bind fun r3 =>
  bif r3 then
   (C108 A x1 x1).bind fun r6 =>
   bif r6 then
    some false
   else
    (gt A (cG (lc (cI .i64) (lc (cI .i64) (lc (cI .i64) (l1 (cI .i64)))))) x1 (A.wrp .i64 (A.zsub (A.len x1) 1))).bind fun (a8, a9, a10, a11) =>
    some (A.zeq a8 7)
  else
   some false : Option (Bool))).bind fun v15 =>
 some v15

/-- lineal code.Valid$1 -/
noncomputable def C49 (A : Ar) (x1 : List D) : Option (Bool) :=
 (C50 A x1).bind fun r3 =>
 some (!r3)

noncomputable def C107L0 (A : Ar) (x1 : List D) : Int → Option ((Int) ⊕ ((Unit) ⊕ (Int))) := fun v10 =>
 bif (A.zlt v10 (A.len x1)) then
  (gt A (cL 4) x1 v10).bind fun a12 =>
  (C49 A a12).bind fun r17 =>
  bif r17 then
   some (.inr (.inr v10))
  else
   some (.inl (A.wrp .i64 (A.zadd v10 1)))
 else
  some (.inr (.inl ()))

/-- slices.IndexFunc     lineal api.Line   lineal api.Line  -/
noncomputable def C107 (A : Ar) (x1 : List D) : Option (Int) :=
 (iter (C107L0 A x1) 0).bind (Sum.elim (fun _ =>
  some (-1)) (fun v19 =>
  some v19))

/-- slices.ContainsFunc     lineal api.Line   lineal api.Line  -/
noncomputable def C48 (A : Ar) (x1 : List D) : Option (Bool) :=
 (C107 A x1).bind fun r3 =>
 some (A.zle 0 r3)

/-- lineal code.Valid -/
noncomputable def C15 (A : Ar) (x1 : List D) : Option (Bool) :=
 ((
  (C47 A 1 (A.len x1) 4).bind fun r3 =>
  bif r3 then
   (C48 A x1).bind fun r6 =>
   some (!r6)
  else
   some false : Option (Bool))).bind fun v7 =>
 some v7

/-- lineal code.isWord$1 -/
noncomputable def C136 (A : Ar) (x1 : Int) (x2 : List D) : Option (Bool) :=
 (C47 A 0 x1 (A.wrp .i64 (A.zsub (A.len x2) 1))).bind fun r4 =>
 some (!r4)

noncomputable def C162aL0 (A : Ar) (x1 x2 : List D) : Int → Option ((Int) ⊕ ((Unit) ⊕ (Int))) := fun v11 =>
 bif (A.zlt v11 (A.len x1)) then
  (gt A (cI .i64) x1 v11).bind fun a13 =>
  (C136 A a13 x2).bind fun r18 =>
  bif r18 then
   some (.inr (.inr v11))
  else
   some (.inl (A.wrp .i64 (A.zadd v11 1)))
 else
  some (.inr (.inl ()))

/-- slices.IndexFunc   int int  -/
noncomputable def C162a (A : Ar) (x1 x2 : List D) : Option (Int) :=
 (iter (C162aL0 A x1 x2) 0).bind (Sum.elim (fun _ =>
  some (-1)) (fun v20 =>
  some v20))

/-- slices.ContainsFunc   int int  -/
noncomputable def C135a (A : Ar) (x1 x2 : List D) : Option (Bool) :=
 (C162a A x1 x2).bind fun r4 =>
 some (A.zle 0 r4)

/-- lineal code.isWord -/
noncomputable def C103 (A : Ar) (x1 x2 : List D) : Option (Bool) :=
 ((
  bif (A.zle (A.len x2) 3) then
   (C135a A x2 x1).bind fun r5 =>
   some (!r5)
  else
   some false : Option (Bool))).bind fun v6 =>
 some v6

/-- lineal code.isUse$1 -/
noncomputable def C102 (A : Ar) (x1 x2 : List D) : Option (Bool) :=
 (C103 A x2 x1).bind fun r4 =>
 some (!r4)

noncomputable def C134L0 (A : Ar) (x1 x2 : List D) : Int → Option ((Int) ⊕ ((Unit) ⊕ (Int))) := fun v11 =>
 bif (A.zlt v11 (A.len x1)) then
  (gt A (cL 1) x1 v11).bind fun a13 =>
  (C102 A a13 x2).bind fun r18 =>
  bif r18 then
   some (.inr (.inr v11))
  else
   some (.inl (A.wrp .i64 (A.zadd v11 1)))
 else
  some (.inr (.inl ()))

/-- slices.IndexFunc     int   int  -/
noncomputable def C134 (A : Ar) (x1 x2 : List D) : Option (Int) :=
 (iter (C134L0 A x1 x2) 0).bind (Sum.elim (fun _ =>
  some (-1)) (fun v20 =>
  some v20))

/-- slices.ContainsFunc     int   int  -/
noncomputable def C101 (A : Ar) (x1 x2 : List D) : Option (Bool) :=
 (C134 A x1 x2).bind fun r4 =>
 some (A.zle 0 r4)

/-- lineal code.isUse -/
noncomputable def C42 (A : Ar) (x1 x2 : List D) : Option (Bool) :=
 ((
  (C47 A 1 (A.len x2) 2).bind fun r4 =>
  bif r4 then
   (C101 A x2 x1).bind fun r7 =>
   some (!r7)
  else
   some false : Option (Bool))).bind fun v8 =>
 some v8

/-- lineal code.checked -/
noncomputable def C89 (A : Ar) (x1 x2 : List D) : Option (Int) :=
 (C15 A x1).bind fun r4 =>
 bif r4 then
  (C42 A x1 x2).bind fun r7 =>
  bif r7 then
   some 0
  else
   some 81
 else
  some 80

/-- lineal code.newRun -/
noncomputable def C69 (A : Ar) (x1 x2 : List D) : Option (List D × List D) :=
 some (x1, x2)

/--  *lineal code.run .has -/
noncomputable def C70 (A : Ar) (x1 : Int) (x2 x3 : List D) (x4 x5 x6 x7 x8 x9 x10 x11 x12 x13 x14 x15 x16 x17 x18 x19 x20 x21 : Int) (x22 x23 : List D) : Option (Bool) :=
 ((
  (C47 A 0 x1 (A.wrp .i64 (A.zsub (A.len x3) 1))).bind fun r25 =>
  bif r25 then
   bif (A.zeq x1 0) then
    (gt A (cL 1) x3 x1).bind fun a29 =>
    some (A.zlt x4 (A.len a29))
   else
    bif (A.zeq x1 1) then
     (gt A (cL 1) x3 x1).bind fun a36 =>
     some (A.zlt x11 (A.len a36))
    else
     none
  else
   some false : Option (Bool))).bind fun v41 =>
 some v41

/--  *lineal code.run .begun$1 -/
noncomputable def C143 (A : Ar) (x1 x2 x3 x4 x5 x6 x7 : Int) : Option (Bool) :=
 ((
  bif (A.zeq x1 x7) then
   some (A.zeq x6 0)
  else
   some false : Option (Bool))).bind fun v9 =>
 some v9

noncomputable def C166L0 (A : Ar) (x1 : Int) (x22 : List D) : Int → Option ((Int) ⊕ ((Unit) ⊕ (Int))) := fun v40 =>
 bif (A.zlt v40 (A.len x22)) then
  (ck (A.zle 0 v40)).bind fun _ =>
  (ck (A.zlt v40 (A.len x22))).bind fun _ =>
  (gc A (cG (lc (cI .i64) (lc (cI .i64) (lc (cI .i64) (lc (cI .i64) (lc (cI .i64) (l1 (cI .i64)))))))) x22 (A.nat v40)).bind fun (a46, a47, a48, a49, a50, a51) =>
  (C143 A a46 a47 a48 a49 a50 a51 x1).bind fun r55 =>
  bif r55 then
   some (.inr (.inr v40))
  else
   some (.inl (A.wrp .i64 (A.zadd v40 1)))
 else
  some (.inr (.inl ()))

/-- slices.IndexFunc   lineal api.Call lineal api.Call  -/
noncomputable def C166 (A : Ar) (x1 : Int) (x2 x3 : List D) (x4 x5 x6 x7 x8 x9 x10 x11 x12 x13 x14 x15 x16 x17 x18 x19 x20 x21 : Int) (x22 x23 : List D) : Option (Int) :=
 (iter (C166L0 A x1 x22) 0).bind (Sum.elim (fun _ =>
  some (-1)) (fun v57 =>
  some v57))

/-- slices.ContainsFunc   lineal api.Call lineal api.Call  -/
noncomputable def C142 (A : Ar) (x1 : Int) (x2 x3 : List D) (x4 x5 x6 x7 x8 x9 x10 x11 x12 x13 x14 x15 x16 x17 x18 x19 x20 x21 : Int) (x22 x23 : List D) : Option (Bool) :=
 (C166 A x1 x2 x3 x4 x5 x6 x7 x8 x9 x10 x11 x12 x13 x14 x15 x16 x17 x18 x19 x20 x21 x22 x23).bind fun r25 =>
 some (A.zle 0 r25)

/--  *lineal code.run .begun -/
noncomputable def C116 (A : Ar) (x1 : Int) (x2 x3 : List D) (x4 x5 x6 x7 x8 x9 x10 x11 x12 x13 x14 x15 x16 x17 x18 x19 x20 x21 : Int) (x22 x23 : List D) : Option (Bool) :=
 (C142 A x1 x2 x3 x4 x5 x6 x7 x8 x9 x10 x11 x12 x13 x14 x15 x16 x17 x18 x19 x20 x21 x22 x23).bind fun r25 =>
 some r25

/-- lineal code.start -/
noncomputable def C117 (A : Ar) : Option (Unit) :=
 some ()

/--  *lineal code.run .swap -/
noncomputable def C118 (A : Ar) (x1 x2 x3 x4 : Int) (x5 x6 : List D) (x7 x8 x9 x10 x11 x12 x13 x14 x15 x16 x17 x18 x19 x20 x21 x22 x23 x24 : Int) (x25 x26 : List D) : Option (Int × Int × Int × Int) :=
 (ck (A.zle 0 x2)).bind fun _ =>
 (ck (A.zlt x2 (Int.ofNat 3))).bind fun _ =>
 (gc A (cI .i64) [(.int .i64 x21), (.int .i64 x22), (.int .i64 x23)] (A.nat x2)).bind fun a31 =>
 (ck (A.zle 0 x3)).bind fun _ =>
 (ck (A.zlt x3 (Int.ofNat 4))).bind fun _ =>
 (gc A (cI .i64) [(.int .i64 x9), (.int .i64 x10), (.int .i64 x11), (.int .i64 x12)] (A.nat x3)).bind fun a38 =>
 bif (A.zeq a31 a38) then
  (ck (A.zle 0 x4)).bind fun _ =>
  (ck (A.zlt x4 (Int.ofNat 4))).bind fun _ =>
  (gc A (cI .i64) [(.int .i64 x9), (.int .i64 x10), (.int .i64 x11), (.int .i64 x12)] (A.nat x4)).bind fun a46 =>
  (ck (A.zle 0 x2)).bind fun _ =>
  (ck (A.zlt x2 (Int.ofNat 3))).bind fun _ =>
  some (1, (bif A.zeq x2 (Int.ofNat 0) then a46 else x21), (bif A.zeq x2 (Int.ofNat 1) then a46 else x22), (bif A.zeq x2 (Int.ofNat 2) then a46 else x23))
 else
  some (0, x21, x22, x23)

/--  *lineal code.run .swap -/
noncomputable def C118a (A : Ar) (x1 x2 x3 x4 : Int) (x5 x6 : List D) (x7 x8 x9 x10 x11 x12 x13 x14 x15 x16 x17 x18 x19 x20 x21 x22 x23 x24 : Int) (x25 x26 : List D) : Option (Int × Int × Int × Int) :=
 (ck (A.zle 0 x2)).bind fun _ =>
 (ck (A.zlt x2 (Int.ofNat 3))).bind fun _ =>
 (gc A (cI .i64) [(.int .i64 x21), (.int .i64 x22), (.int .i64 x23)] (A.nat x2)).bind fun a31 =>
 (ck (A.zle 0 x3)).bind fun _ =>
 (ck (A.zlt x3 (Int.ofNat 4))).bind fun _ =>
 (gc A (cI .i64) [(.int .i64 x16), (.int .i64 x17), (.int .i64 x18), (.int .i64 x19)] (A.nat x3)).bind fun a38 =>
 bif (A.zeq a31 a38) then
  (ck (A.zle 0 x4)).bind fun _ =>
  (ck (A.zlt x4 (Int.ofNat 4))).bind fun _ =>
  (gc A (cI .i64) [(.int .i64 x16), (.int .i64 x17), (.int .i64 x18), (.int .i64 x19)] (A.nat x4)).bind fun a46 =>
  (ck (A.zle 0 x2)).bind fun _ =>
  (ck (A.zlt x2 (Int.ofNat 3))).bind fun _ =>
  some (1, (bif A.zeq x2 (Int.ofNat 0) then a46 else x21), (bif A.zeq x2 (Int.ofNat 1) then a46 else x22), (bif A.zeq x2 (Int.ofNat 2) then a46 else x23))
 else
  some (0, x21, x22, x23)

/--  *lineal code.run .step -/
noncomputable def C71 (A : Ar) (x1 : Int) (x2 x3 x4 : List D) (x5 x6 x7 x8 x9 x10 x11 x12 x13 x14 x15 x16 x17 x18 x19 x20 x21 x22 : Int) (x23 x24 : List D) : Option (List D × List D × Int × Int × Int × Int × Int × Int × Int × Int × Int × Int × Int × Int × Int × Int × Int × Int × Int × Int × List D × List D) :=
 bif (A.zeq x1 0) then
  (gt A (cL 1) x4 x1).bind fun a29 =>
  (gt A (cI .i64) a29 x5).bind fun a33 =>
  ((
   bif (A.zeq x6 0) then
    (C116 A x1 x3 x4 x5 x6 x7 x8 x9 x10 x11 x12 x13 x14 x15 x16 x17 x18 x19 x20 x21 x22 x23 x24).bind fun r39 =>
    some (!r39)
   else
    some false : Option (Bool))).bind fun v40 =>
  ((
   bif v40 then
    (C117 A).bind fun () =>
    (ap A x23 [(.agg [(.int .i64 x1), (.int .i64 0), (.int .i64 a33), (.int .i64 0), (.int .i64 (A.wrp .i64 (A.zadd (A.wrp .i64 (A.zmul 2 x22)) 1))), (.int .i64 0)])]).bind fun l44 =>
    (ap A x24 [(.int .i64 0)]).bind fun l48 =>
    some (0, 1, 0, 0, (A.len x23), l44, l48)
   else
    some (x7, x8, x9, x10, x11, x23, x24) : Option (Int × Int × Int × Int × Int × List D × List D))).bind fun (v52, v53, v54, v55, v56, v57, v58) =>
  ((
   bif (A.zlt 0 (A.len x2)) then
    (gt A (cI .i64) x2 a33).bind fun a61 =>
    some (A.zeq a61 x6)
   else
    some false : Option (Bool))).bind fun v65 =>
  ((
   bif v65 then
    (ck (A.zle 0 v56)).bind fun _ =>
    (ck (A.zlt v56 (A.len v58))).bind fun _ =>
    (gc A (cI .i64) v58 (A.nat v56)).bind fun a72 =>
    some (A.lset v58 (A.nat v56) (.int .i64 (A.wrp .i64 (A.zadd x22 1))))
   else
    some v58 : Option (List D))).bind fun v75 =>
  (gt A (cL 4) x3 a33).bind fun a77 =>
  (gt A (cG (lc (cI .i64) (lc (cI .i64) (lc (cI .i64) (l1 (cI .i64)))))) a77 x6).bind fun (a81, a82, a83, a84) =>
  ((
   bif (A.zeq a81 1) then
    (ck (A.zle 0 a83)).bind fun _ =>
    (ck (A.zlt a83 (Int.ofNat 3))).bind fun _ =>
    (gc A (cI .i64) [(.int .i64 x19), (.int .i64 x20), (.int .i64 x21)] (A.nat a83)).bind fun a93 =>
    (ck (A.zle 0 a82)).bind fun _ =>
    (ck (A.zlt a82 (Int.ofNat 4))).bind fun _ =>
    some (x5, (A.wrp .i64 (A.zadd x6 1)), (bif A.zeq a82 (Int.ofNat 0) then a93 else v52), (bif A.zeq a82 (Int.ofNat 1) then a93 else v53), (bif A.zeq a82 (Int.ofNat 2) then a93 else v54), (bif A.zeq a82 (Int.ofNat 3) then a93 else v55), x19, x20, x21, v57)
   else
    ((
     bif (A.zeq a81 2) then
      (ck (A.zle 0 a83)).bind fun _ =>
      (ck (A.zlt a83 (Int.ofNat 4))).bind fun _ =>
      (gc A (cI .i64) [(.int .i64 v52), (.int .i64 v53), (.int .i64 v54), (.int .i64 v55)] (A.nat a83)).bind fun a105 =>
      (ck (A.zle 0 a82)).bind fun _ =>
      (ck (A.zlt a82 (Int.ofNat 3))).bind fun _ =>
      some (x5, (A.wrp .i64 (A.zadd x6 1)), v52, v53, v54, v55, (bif A.zeq a82 (Int.ofNat 0) then a105 else x19), (bif A.zeq a82 (Int.ofNat 1) then a105 else x20), (bif A.zeq a82 (Int.ofNat 2) then a105 else x21), v57)
     else
      ((
       bif (A.zeq a81 3) then
        (C118 A a81 a82 a83 a84 x3 x4 x5 (A.wrp .i64 (A.zadd x6 1)) v52 v53 v54 v55 v56 x12 x13 x14 x15 x16 x17 x18 x19 x20 x21 (A.wrp .i64 (A.zadd x22 1)) v57 v75).bind fun (r114, r115, r116, r117) =>
        some (x5, (A.wrp .i64 (A.zadd x6 1)), v52, v53, v54, r114, r115, r116, r117, v57)
       else
        ((
         bif (A.zeq a81 4) then
          (ck (A.zle 0 a82)).bind fun _ =>
          (ck (A.zlt a82 (Int.ofNat 4))).bind fun _ =>
          some (x5, (A.wrp .i64 (A.zadd x6 1)), (bif A.zeq a82 (Int.ofNat 0) then a83 else v52), (bif A.zeq a82 (Int.ofNat 1) then a83 else v53), (bif A.zeq a82 (Int.ofNat 2) then a83 else v54), (bif A.zeq a82 (Int.ofNat 3) then a83 else v55), v57)
         else
          ((
           bif (A.zeq a81 5) then
            (ck (A.zle 0 a83)).bind fun _ =>
            (ck (A.zlt a83 (Int.ofNat 4))).bind fun _ =>
            (gc A (cI .i64) [(.int .i64 v52), (.int .i64 v53), (.int .i64 v54), (.int .i64 v55)] (A.nat a83)).bind fun a128 =>
            (ck (A.zle 0 a84)).bind fun _ =>
            (ck (A.zlt a84 (Int.ofNat 4))).bind fun _ =>
            (gc A (cI .i64) [(.int .i64 v52), (.int .i64 v53), (.int .i64 v54), (.int .i64 v55)] (A.nat a84)).bind fun a135 =>
            (nk (A.zeq 10 0)).bind fun _ =>
            (ck (A.zle 0 a82)).bind fun _ =>
            (ck (A.zlt a82 (Int.ofNat 4))).bind fun _ =>
            some (x5, (A.wrp .i64 (A.zadd x6 1)), (bif A.zeq a82 (Int.ofNat 0) then (A.rem (A.wrp .i64 (A.zadd a128 a135)) 10) else v52), (bif A.zeq a82 (Int.ofNat 1) then (A.rem (A.wrp .i64 (A.zadd a128 a135)) 10) else v53), (bif A.zeq a82 (Int.ofNat 2) then (A.rem (A.wrp .i64 (A.zadd a128 a135)) 10) else v54), (bif A.zeq a82 (Int.ofNat 3) then (A.rem (A.wrp .i64 (A.zadd a128 a135)) 10) else v55), v57)
           else
            ((
             bif (A.zeq a81 6) then
              (ck (A.zle 0 a82)).bind fun _ =>
              (ck (A.zlt a82 (Int.ofNat 4))).bind fun _ =>
              (gc A (cI .i64) [(.int .i64 v52), (.int .i64 v53), (.int .i64 v54), (.int .i64 v55)] (A.nat a82)).bind fun a149 =>
              ((
               bif (A.zeq a149 0) then
                some a83
               else
                some (A.wrp .i64 (A.zadd x6 1)) : Option (Int))).bind fun v153 =>
              some (x5, v153, v57)
             else
              ((
               bif (A.zeq a81 7) then
                (ck (A.zle 0 v56)).bind fun _ =>
                (ck (A.zlt v56 (A.len v57))).bind fun _ =>
                (ck (A.zle 0 a82)).bind fun _ =>
                (ck (A.zlt a82 (Int.ofNat 4))).bind fun _ =>
                (gc A (cI .i64) [(.int .i64 v52), (.int .i64 v53), (.int .i64 v54), (.int .i64 v55)] (A.nat a82)).bind fun a164 =>
                (gc A (cG (lc (cI .i64) (lc (cI .i64) (lc (cI .i64) (lc (cI .i64) (lc (cI .i64) (l1 (cI .i64)))))))) v57 (A.nat v56)).bind fun (a167, a168, a169, a170, a171, a172) =>
                (gc A (cG (lc (cI .i64) (lc (cI .i64) (lc (cI .i64) (lc (cI .i64) (lc (cI .i64) (l1 (cI .i64)))))))) (A.lset v57 (A.nat v56) (.agg [(.int .i64 a167), (.int .i64 a168), (.int .i64 a169), (.int .i64 a170), (.int .i64 a171), (.int .i64 (A.wrp .i64 (A.zmul 2 (A.wrp .i64 (A.zadd x22 1)))))])) (A.nat v56)).bind fun (a175, a176, a177, a178, a179, a180) =>
                some ((A.wrp .i64 (A.zadd x5 1)), 0, (A.lset (A.lset v57 (A.nat v56) (.agg [(.int .i64 a167), (.int .i64 a168), (.int .i64 a169), (.int .i64 a170), (.int .i64 a171), (.int .i64 (A.wrp .i64 (A.zmul 2 (A.wrp .i64 (A.zadd x22 1)))))])) (A.nat v56) (.agg [(.int .i64 a175), (.int .i64 a176), (.int .i64 a177), (.int .i64 a164), (.int .i64 a179), (.int .i64 a180)])))
               else
                some (x5, (A.wrp .i64 (A.zadd x6 1)), v57) : Option (Int × Int × List D))).bind fun (v183, v184, v185) =>
              some (v183, v184, v185) : Option (Int × Int × List D))).bind fun (v187, v188, v189) =>
            some (v187, v188, v52, v53, v54, v55, v189) : Option (Int × Int × Int × Int × Int × Int × List D))).bind fun (v191, v192, v193, v194, v195, v196, v197) =>
          some (v191, v192, v193, v194, v195, v196, v197) : Option (Int × Int × Int × Int × Int × Int × List D))).bind fun (v199, v200, v201, v202, v203, v204, v205) =>
        some (v199, v200, v201, v202, v203, v204, x19, x20, x21, v205) : Option (Int × Int × Int × Int × Int × Int × Int × Int × Int × List D))).bind fun (v207, v208, v209, v210, v211, v212, v213, v214, v215, v216) =>
      some (v207, v208, v209, v210, v211, v212, v213, v214, v215, v216) : Option (Int × Int × Int × Int × Int × Int × Int × Int × Int × List D))).bind fun (v218, v219, v220, v221, v222, v223, v224, v225, v226, v227) =>
    some (v218, v219, v220, v221, v222, v223, v224, v225, v226, v227) : Option (Int × Int × Int × Int × Int × Int × Int × Int × Int × List D))).bind fun (v229, v230, v231, v232, v233, v234, v235, v236, v237, v238) =>
  some (x3, x4, v229, v230, v231, v232, v233, v234, v56, x12, x13, x14, x15, x16, x17, x18, v235, v236, v237, (A.wrp .i64 (A.zadd x22 1)), v238, v75)
 else
  bif (A.zeq x1 1) then
   (gt A (cL 1) x4 x1).bind fun a240 =>
   (gt A (cI .i64) a240 x12).bind fun a244 =>
   ((
    bif (A.zeq x13 0) then
     (C116 A x1 x3 x4 x5 x6 x7 x8 x9 x10 x11 x12 x13 x14 x15 x16 x17 x18 x19 x20 x21 x22 x23 x24).bind fun r250 =>
     some (!r250)
    else
     some false : Option (Bool))).bind fun v251 =>
   ((
    bif v251 then
     (C117 A).bind fun () =>
     (ap A x23 [(.agg [(.int .i64 x1), (.int .i64 0), (.int .i64 a244), (.int .i64 0), (.int .i64 (A.wrp .i64 (A.zadd (A.wrp .i64 (A.zmul 2 x22)) 1))), (.int .i64 0)])]).bind fun l255 =>
     (ap A x24 [(.int .i64 0)]).bind fun l259 =>
     some (0, 1, 0, 0, (A.len x23), l255, l259)
    else
     some (x14, x15, x16, x17, x18, x23, x24) : Option (Int × Int × Int × Int × Int × List D × List D))).bind fun (v263, v264, v265, v266, v267, v268, v269) =>
   ((
    bif (A.zlt 0 (A.len x2)) then
     (gt A (cI .i64) x2 a244).bind fun a272 =>
     some (A.zeq a272 x13)
    else
     some false : Option (Bool))).bind fun v276 =>
   ((
    bif v276 then
     (ck (A.zle 0 v267)).bind fun _ =>
     (ck (A.zlt v267 (A.len v269))).bind fun _ =>
     (gc A (cI .i64) v269 (A.nat v267)).bind fun a283 =>
     some (A.lset v269 (A.nat v267) (.int .i64 (A.wrp .i64 (A.zadd x22 1))))
    else
     some v269 : Option (List D))).bind fun v286 =>
   (gt A (cL 4) x3 a244).bind fun a288 =>
   (gt A (cG (lc (cI .i64) (lc (cI .i64) (lc (cI .i64) (l1 (cI .i64)))))) a288 x13).bind fun (a292, a293, a294, a295) =>
   ((
    bif (A.zeq a292 1) then
     (ck (A.zle 0 a294)).bind fun _ =>
     (ck (A.zlt a294 (Int.ofNat 3))).bind fun _ =>
     (gc A (cI .i64) [(.int .i64 x19), (.int .i64 x20), (.int .i64 x21)] (A.nat a294)).bind fun a304 =>
     (ck (A.zle 0 a293)).bind fun _ =>
     (ck (A.zlt a293 (Int.ofNat 4))).bind fun _ =>
     some (x12, (A.wrp .i64 (A.zadd x13 1)), (bif A.zeq a293 (Int.ofNat 0) then a304 else v263), (bif A.zeq a293 (Int.ofNat 1) then a304 else v264), (bif A.zeq a293 (Int.ofNat 2) then a304 else v265), (bif A.zeq a293 (Int.ofNat 3) then a304 else v266), x19, x20, x21, v268)
    else
     ((
      bif (A.zeq a292 2) then
       (ck (A.zle 0 a294)).bind fun _ =>
       (ck (A.zlt a294 (Int.ofNat 4))).bind fun _ =>
       (gc A (cI .i64) [(.int .i64 v263), (.int .i64 v264), (.int .i64 v265), (.int .i64 v266)] (A.nat a294)).bind fun a316 =>
       (ck (A.zle 0 a293)).bind fun _ =>
       (ck (A.zlt a293 (Int.ofNat 3))).bind fun _ =>
       some (x12, (A.wrp .i64 (A.zadd x13 1)), v263, v264, v265, v266, (bif A.zeq a293 (Int.ofNat 0) then a316 else x19), (bif A.zeq a293 (Int.ofNat 1) then a316 else x20), (bif A.zeq a293 (Int.ofNat 2) then a316 else x21), v268)
      else
       ((
        bif (A.zeq a292 3) then
         (C118a A a292 a293 a294 a295 x3 x4 x5 x6 x7 x8 x9 x10 x11 x12 (A.wrp .i64 (A.zadd x13 1)) v263 v264 v265 v266 v267 x19 x20 x21 (A.wrp .i64 (A.zadd x22 1)) v268 v286).bind fun (r325, r326, r327, r328) =>
         some (x12, (A.wrp .i64 (A.zadd x13 1)), v263, v264, v265, r325, r326, r327, r328, v268)
        else
         ((
          bif (A.zeq a292 4) then
           (ck (A.zle 0 a293)).bind fun _ =>
           (ck (A.zlt a293 (Int.ofNat 4))).bind fun _ =>
           some (x12, (A.wrp .i64 (A.zadd x13 1)), (bif A.zeq a293 (Int.ofNat 0) then a294 else v263), (bif A.zeq a293 (Int.ofNat 1) then a294 else v264), (bif A.zeq a293 (Int.ofNat 2) then a294 else v265), (bif A.zeq a293 (Int.ofNat 3) then a294 else v266), v268)
          else
           ((
            bif (A.zeq a292 5) then
             (ck (A.zle 0 a294)).bind fun _ =>
             (ck (A.zlt a294 (Int.ofNat 4))).bind fun _ =>
             (gc A (cI .i64) [(.int .i64 v263), (.int .i64 v264), (.int .i64 v265), (.int .i64 v266)] (A.nat a294)).bind fun a339 =>
             (ck (A.zle 0 a295)).bind fun _ =>
             (ck (A.zlt a295 (Int.ofNat 4))).bind fun _ =>
             (gc A (cI .i64) [(.int .i64 v263), (.int .i64 v264), (.int .i64 v265), (.int .i64 v266)] (A.nat a295)).bind fun a346 =>
             (nk (A.zeq 10 0)).bind fun _ =>
             (ck (A.zle 0 a293)).bind fun _ =>
             (ck (A.zlt a293 (Int.ofNat 4))).bind fun _ =>
             some (x12, (A.wrp .i64 (A.zadd x13 1)), (bif A.zeq a293 (Int.ofNat 0) then (A.rem (A.wrp .i64 (A.zadd a339 a346)) 10) else v263), (bif A.zeq a293 (Int.ofNat 1) then (A.rem (A.wrp .i64 (A.zadd a339 a346)) 10) else v264), (bif A.zeq a293 (Int.ofNat 2) then (A.rem (A.wrp .i64 (A.zadd a339 a346)) 10) else v265), (bif A.zeq a293 (Int.ofNat 3) then (A.rem (A.wrp .i64 (A.zadd a339 a346)) 10) else v266), v268)
            else
             ((
              bif (A.zeq a292 6) then
               (ck (A.zle 0 a293)).bind fun _ =>
               (ck (A.zlt a293 (Int.ofNat 4))).bind fun _ =>
               (gc A (cI .i64) [(.int .i64 v263), (.int .i64 v264), (.int .i64 v265), (.int .i64 v266)] (A.nat a293)).bind fun a360 =>
               ((
                bif (A.zeq a360 0) then
                 some a294
                else
                 some (A.wrp .i64 (A.zadd x13 1)) : Option (Int))).bind fun v364 =>
               some (x12, v364, v268)
              else
               ((
                bif (A.zeq a292 7) then
                 (ck (A.zle 0 v267)).bind fun _ =>
                 (ck (A.zlt v267 (A.len v268))).bind fun _ =>
                 (ck (A.zle 0 a293)).bind fun _ =>
                 (ck (A.zlt a293 (Int.ofNat 4))).bind fun _ =>
                 (gc A (cI .i64) [(.int .i64 v263), (.int .i64 v264), (.int .i64 v265), (.int .i64 v266)] (A.nat a293)).bind fun a375 =>
                 (gc A (cG (lc (cI .i64) (lc (cI .i64) (lc (cI .i64) (lc (cI .i64) (lc (cI .i64) (l1 (cI .i64)))))))) v268 (A.nat v267)).bind fun (a378, a379, a380, a381, a382, a383) =>
                 (gc A (cG (lc (cI .i64) (lc (cI .i64) (lc (cI .i64) (lc (cI .i64) (lc (cI .i64) (l1 (cI .i64)))))))) (A.lset v268 (A.nat v267) (.agg [(.int .i64 a378), (.int .i64 a379), (.int .i64 a380), (.int .i64 a381), (.int .i64 a382), (.int .i64 (A.wrp .i64 (A.zmul 2 (A.wrp .i64 (A.zadd x22 1)))))])) (A.nat v267)).bind fun (a386, a387, a388, a389, a390, a391) =>
                 some ((A.wrp .i64 (A.zadd x12 1)), 0, (A.lset (A.lset v268 (A.nat v267) (.agg [(.int .i64 a378), (.int .i64 a379), (.int .i64 a380), (.int .i64 a381), (.int .i64 a382), (.int .i64 (A.wrp .i64 (A.zmul 2 (A.wrp .i64 (A.zadd x22 1)))))])) (A.nat v267) (.agg [(.int .i64 a386), (.int .i64 a387), (.int .i64 a388), (.int .i64 a375), (.int .i64 a390), (.int .i64 a391)])))
                else
                 some (x12, (A.wrp .i64 (A.zadd x13 1)), v268) : Option (Int × Int × List D))).bind fun (v394, v395, v396) =>
               some (v394, v395, v396) : Option (Int × Int × List D))).bind fun (v398, v399, v400) =>
             some (v398, v399, v263, v264, v265, v266, v400) : Option (Int × Int × Int × Int × Int × Int × List D))).bind fun (v402, v403, v404, v405, v406, v407, v408) =>
           some (v402, v403, v404, v405, v406, v407, v408) : Option (Int × Int × Int × Int × Int × Int × List D))).bind fun (v410, v411, v412, v413, v414, v415, v416) =>
         some (v410, v411, v412, v413, v414, v415, x19, x20, x21, v416) : Option (Int × Int × Int × Int × Int × Int × Int × Int × Int × List D))).bind fun (v418, v419, v420, v421, v422, v423, v424, v425, v426, v427) =>
       some (v418, v419, v420, v421, v422, v423, v424, v425, v426, v427) : Option (Int × Int × Int × Int × Int × Int × Int × Int × Int × List D))).bind fun (v429, v430, v431, v432, v433, v434, v435, v436, v437, v438) =>
     some (v429, v430, v431, v432, v433, v434, v435, v436, v437, v438) : Option (Int × Int × Int × Int × Int × Int × Int × Int × Int × List D))).bind fun (v440, v441, v442, v443, v444, v445, v446, v447, v448, v449) =>
   some (x3, x4, x5, x6, x7, x8, x9, x10, x11, v440, v441, v442, v443, v444, v445, v267, v446, v447, v448, (A.wrp .i64 (A.zadd x22 1)), v449, v286)
  else
   none

noncomputable def C104L0 (A : Ar) (x3 x4 : List D) : (Int × List D × List D × Int × Int × Int × Int × Int × Int × Int × Int × Int × Int × Int × Int × Int × Int × Int × Int × Int × Int × List D × List D) → Option ((Int × List D × List D × Int × Int × Int × Int × Int × Int × Int × Int × Int × Int × Int × Int × Int × Int × Int × Int × Int × Int × List D × List D) ⊕ ((List D × List D × Int × Int × Int × Int × Int × Int × Int × Int × Int × Int × Int × Int × Int × Int × Int × Int × Int × Int × List D × List D) ⊕ (List D × List D × Int × Int × Int × Int × Int × Int × Int × Int × Int × Int × Int × Int × Int × Int × Int × Int × Int × Int × List D × List D × List D × List D × Int × Int × Int × Int × Int × Int × Int × Int × Int × Int × Int × Int × Int × Int × Int × Int × Int × Int × List D × List D))) := fun (v40, v41, v42, v43, v44, v45, v46, v47, v48, v49, v50, v51, v52, v53, v54, v55, v56, v57, v58, v59, v60, v61, v62) =>
 bif (A.zlt v40 (A.len x3)) then
  (gt A (cI .i64) x3 v40).bind fun a64 =>
  (C70 A a64 v41 v42 v43 v44 v45 v46 v47 v48 v49 v50 v51 v52 v53 v54 v55 v56 v57 v58 v59 v60 v61 v62).bind fun r69 =>
  bif r69 then
   (C71 A a64 x4 v41 v42 v43 v44 v45 v46 v47 v48 v49 v50 v51 v52 v53 v54 v55 v56 v57 v58 v59 v60 v61 v62).bind fun (r72, r73, r74, r75, r76, r77, r78, r79, r80, r81, r82, r83, r84, r85, r86, r87, r88, r89, r90, r91, r92, r93) =>
   some (.inl ((A.wrp .i64 (A.zadd v40 1)), r72, r73, r74, r75, r76, r77, r78, r79, r80, r81, r82, r83, r84, r85, r86, r87, r88, r89, r90, r91, r92, r93))
  else
   some (.inr (.inr (v41, v42, v43, v44, v45, v46, v47, v48, v49, v50, v51, v52, v53, v54, v55, v56, v57, v58, v59, v60, v61, v62, v41, v42, v43, v44, v45, v46, v47, v48, v49, v50, v51, v52, v53, v54, v55, v56, v57, v58, v59, v60, v61, v62)))
 else
  some (.inr (.inl (v41, v42, v43, v44, v45, v46, v47, v48, v49, v50, v51, v52, v53, v54, v55, v56, v57, v58, v59, v60, v61, v62)))

/-- lineal code.done -/
noncomputable def C104 (A : Ar) (x1 x2 x3 x4 : List D) : Option (List D × List D × Int × Int × Int × Int × Int × Int × Int × Int × Int × Int × Int × Int × Int × Int × Int × Int × Int × Int × List D × List D × Bool) :=
 (C69 A x1 x2).bind fun (r6, r7) =>
 bif (A.zlt 12 (A.len x3)) then
  some (r6, r7, 0, 0, 0, 0, 0, 0, 0, 0, 0, 0, 0, 0, 0, 0, 0, 0, 0, 0, [], [], false)
 else
  (iter (C104L0 A x3 x4) (0, r6, r7, 0, 0, 0, 0, 0, 0, 0, 0, 0, 0, 0, 0, 0, 0, 0, 0, 0, 0, [], [])).bind (Sum.elim (fun (v94, v95, v96, v97, v98, v99, v100, v101, v102, v103, v104, v105, v106, v107, v108, v109, v110, v111, v112, v113, v114, v115) =>
   some (v94, v95, v96, v97, v98, v99, v100, v101, v102, v103, v104, v105, v106, v107, v108, v109, v110, v111, v112, v113, v114, v115, true)) (fun (v116, v117, v118, v119, v120, v121, v122, v123, v124, v125, v126, v127, v128, v129, v130, v131, v132, v133, v134, v135, v136, v137, v138, v139, v140, v141, v142, v143, v144, v145, v146, v147, v148, v149, v150, v151, v152, v153, v154, v155, v156, v157, v158, v159) =>
   some (v116, v117, v118, v119, v120, v121, v122, v123, v124, v125, v126, v127, v128, v129, v130, v131, v132, v133, v134, v135, v136, v137, false)))

/-- lineal code.Run$1 -/
noncomputable def C45 (A : Ar) (x1 x2 : List D) (x3 x4 x5 x6 x7 x8 x9 x10 x11 x12 x13 x14 x15 x16 x17 x18 x19 x20 : Int) (x21 x22 x23 : List D) : Option (List D) :=
 some x21

/-- lineal code.behind -/
noncomputable def C44 (A : Ar) (x1 x2 x3 x4 : List D) : Option ((List D) ⊕ (Int)) :=
 (C89 A x1 x2).bind fun r6 =>
 bif (A.zeq r6 0) then
  (C104 A x1 x2 x3 []).bind fun (r9, r10, r11, r12, r13, r14, r15, r16, r17, r18, r19, r20, r21, r22, r23, r24, r25, r26, r27, r28, r29, r30, r31) =>
  bif r31 then
   (C45 A r9 r10 r11 r12 r13 r14 r15 r16 r17 r18 r19 r20 r21 r22 r23 r24 r25 r26 r27 r28 r29 r30 x4).bind fun r34 =>
   some (.inl r34)
  else
   some (.inr 2)
 else
  some (.inr r6)

/-- lineal code.Run -/
noncomputable def C13 (A : Ar) (x1 x2 x3 : List D) : Option (List D × Int) :=
 ((
  (C44 A x1 x2 x3 []).bind (Sum.elim (fun r5 =>
   some (0, r5)) (fun r6 =>
   some (r6, []))) : Option (Int × List D))).bind fun (v8, v9) =>
 some (v9, v8)

/-- lineal lineallaw08.Sane -/
noncomputable def C10 (A : Ar) : Option (Bool) :=
 (C13 A [(.list 4 [(.agg [(.int .i64 1), (.int .i64 0), (.int .i64 0), (.int .i64 0)]), (.agg [(.int .i64 5), (.int .i64 2), (.int .i64 0), (.int .i64 1)]), (.agg [(.int .i64 2), (.int .i64 0), (.int .i64 2), (.int .i64 0)]), (.agg [(.int .i64 7), (.int .i64 0), (.int .i64 0), (.int .i64 0)])])] [(.list 1 [(.int .i64 0)]), (.list 1 [(.int .i64 0)])] [(.int .i64 0), (.int .i64 0), (.int .i64 1), (.int .i64 1), (.int .i64 0), (.int .i64 0), (.int .i64 1), (.int .i64 1)]).bind fun (r2, r3) =>
 ((
  bif (A.zeq r3 0) then
   bif (A.zeq (A.len r2) 2) then
    (gc A (cG (lc (cI .i64) (lc (cI .i64) (lc (cI .i64) (lc (cI .i64) (lc (cI .i64) (l1 (cI .i64)))))))) r2 0).bind fun (a6, a7, a8, a9, a10, a11) =>
    bif (A.deq [(.int .i64 a6), (.int .i64 a7), (.int .i64 a8), (.int .i64 a9), (.int .i64 a10), (.int .i64 a11)] [(.int .i64 0), (.int .i64 0), (.int .i64 0), (.int .i64 0), (.int .i64 1), (.int .i64 12)]) then
     (gc A (cG (lc (cI .i64) (lc (cI .i64) (lc (cI .i64) (lc (cI .i64) (lc (cI .i64) (l1 (cI .i64)))))))) r2 1).bind fun (a15, a16, a17, a18, a19, a20) =>
     some (A.deq [(.int .i64 a15), (.int .i64 a16), (.int .i64 a17), (.int .i64 a18), (.int .i64 a19), (.int .i64 a20)] [(.int .i64 1), (.int .i64 0), (.int .i64 0), (.int .i64 0), (.int .i64 5), (.int .i64 16)])
    else
     some false
   else
    some false
  else
   some false : Option (Bool))).bind fun v23 =>
 some v23

/-- lineal linealref08.within -/
noncomputable def C51 (A : Ar) (x1 x2 x3 : Int) : Option (Bool) :=
 ((
  bif (A.zle x1 x2) then
   some (A.zle x2 x3)
  else
   some false : Option (Bool))).bind fun v5 =>
 some v5

/-- lineal linealref08.isRegister -/
noncomputable def C111 (A : Ar) (x1 : Int) : Option (Bool) :=
 (C51 A 0 x1 3).bind fun r3 =>
 some r3

/-- lineal linealref08.isCell -/
noncomputable def C82 (A : Ar) (x1 : Int) : Option (Bool) :=
 (C51 A 0 x1 2).bind fun r3 =>
 some r3

/-- lineal linealref08.isNumber -/
noncomputable def C112 (A : Ar) (x1 : Int) : Option (Bool) :=
 (C51 A 0 x1 9).bind fun r3 =>
 some r3

/-- lineal linealref08.isLine -/
noncomputable def C52 (A : Ar) (x1 x2 x3 x4 x5 : Int) : Option (Bool) :=
 bif (A.zeq x1 1) then
  ((
   (C111 A x2).bind fun r8 =>
   bif r8 then
    (C82 A x3).bind fun r11 =>
    bif r11 then
     some (A.zeq x4 0)
    else
     some false
   else
    some false : Option (Bool))).bind fun v13 =>
  some v13
 else
  bif (A.zeq x1 2) then
   ((
    (C82 A x2).bind fun r17 =>
    bif r17 then
     (C111 A x3).bind fun r20 =>
     bif r20 then
      some (A.zeq x4 0)
     else
      some false
    else
     some false : Option (Bool))).bind fun v22 =>
   some v22
  else
   bif (A.zeq x1 3) then
    ((
     (C82 A x2).bind fun r26 =>
     bif r26 then
      (C111 A x3).bind fun r29 =>
      bif r29 then
       (C111 A x4).bind fun r32 =>
       some r32
      else
       some false
     else
      some false : Option (Bool))).bind fun v33 =>
    some v33
   else
    bif (A.zeq x1 4) then
     ((
      (C111 A x2).bind fun r37 =>
      bif r37 then
       (C112 A x3).bind fun r40 =>
       bif r40 then
        some (A.zeq x4 0)
       else
        some false
      else
       some false : Option (Bool))).bind fun v42 =>
     some v42
    else
     bif (A.zeq x1 5) then
      ((
       (C111 A x2).bind fun r46 =>
       bif r46 then
        (C111 A x3).bind fun r49 =>
        bif r49 then
         (C111 A x4).bind fun r52 =>
         some r52
        else
         some false
       else
        some false : Option (Bool))).bind fun v53 =>
      some v53
     else
      bif (A.zeq x1 6) then
       ((
        (C111 A x2).bind fun r57 =>
        bif r57 then
         (C51 A 0 x3 (A.wrp .i64 (A.zsub x5 1))).bind fun r60 =>
         bif r60 then
          some (A.zeq x4 0)
         else
          some false
        else
         some false : Option (Bool))).bind fun v62 =>
       some v62
      else
       bif (A.zeq x1 7) then
        ((
         (C111 A x2).bind fun r66 =>
         bif r66 then
          bif (A.zeq x3 0) then
           some (A.zeq x4 0)
          else
           some false
         else
          some false : Option (Bool))).bind fun v69 =>
        some v69
       else
        some false

noncomputable def C16L0 (A : Ar) (a47 : List D) : Int → Option ((Int) ⊕ ((Unit) ⊕ (Unit))) := fun v65 =>
 bif (A.zlt v65 (A.len a47)) then
  (gt A (cG (lc (cI .i64) (lc (cI .i64) (lc (cI .i64) (l1 (cI .i64)))))) a47 v65).bind fun (a67, a68, a69, a70) =>
  (C52 A a67 a68 a69 a70 (A.len a47)).bind fun r75 =>
  bif r75 then
   some (.inl (A.wrp .i64 (A.zadd v65 1)))
  else
   some (.inr (.inr ()))
 else
  some (.inr (.inl ()))

noncomputable def C16L1 (A : Ar) (x1 : List D) : Int → Option ((Int) ⊕ ((Unit) ⊕ (Unit))) := fun v45 =>
 bif (A.zlt v45 (A.len x1)) then
  (gt A (cL 4) x1 v45).bind fun a47 =>
  (C51 A 1 (A.len a47) 8).bind fun r52 =>
  bif r52 then
   (iter (C16L0 A a47) 0).bind (Sum.elim (fun _ =>
    (gt A (cG (lc (cI .i64) (lc (cI .i64) (lc (cI .i64) (l1 (cI .i64)))))) a47 (A.wrp .i64 (A.zsub (A.len a47) 1))).bind fun (a78, a79, a80, a81) =>
    bif (A.zeq a78 7) then
     some (.inl (A.wrp .i64 (A.zadd v45 1)))
    else
     some (.inr (.inr ()))) (fun _ =>
    some (.inr (.inr ()))))
  else
   some (.inr (.inr ()))
 else
  some (.inr (.inl ()))

/-- lineal linealref08.Valid -/
noncomputable def C16 (A : Ar) (x1 : List D) : Option (Bool) :=
 (C51 A 1 (A.len x1) 4).bind fun r3 =>
 bif r3 then
  (iter (C16L1 A x1) 0).bind (Sum.elim (fun _ =>
   some true) (fun _ =>
   some false))
 else
  some false

noncomputable def C43L0 (A : Ar) (x1 a32 : List D) : Int → Option ((Int) ⊕ ((Unit) ⊕ (Unit))) := fun v45 =>
 bif (A.zlt v45 (A.len a32)) then
  (gt A (cI .i64) a32 v45).bind fun a47 =>
  (C51 A 0 a47 (A.wrp .i64 (A.zsub (A.len x1) 1))).bind fun r52 =>
  bif r52 then
   some (.inl (A.wrp .i64 (A.zadd v45 1)))
  else
   some (.inr (.inr ()))
 else
  some (.inr (.inl ()))

noncomputable def C43L1 (A : Ar) (x1 x2 : List D) : Int → Option ((Int) ⊕ ((Unit) ⊕ (Unit))) := fun v30 =>
 bif (A.zlt v30 (A.len x2)) then
  (gt A (cL 1) x2 v30).bind fun a32 =>
  bif (A.zlt 3 (A.len a32)) then
   some (.inr (.inr ()))
  else
   (iter (C43L0 A x1 a32) 0).bind (Sum.elim (fun _ =>
    some (.inl (A.wrp .i64 (A.zadd v30 1)))) (fun _ =>
    some (.inr (.inr ()))))
 else
  some (.inr (.inl ()))

/-- lineal linealref08.IsUse -/
noncomputable def C43 (A : Ar) (x1 x2 : List D) : Option (Bool) :=
 (C51 A 1 (A.len x2) 2).bind fun r4 =>
 bif r4 then
  (iter (C43L1 A x1 x2) 0).bind (Sum.elim (fun _ =>
   some true) (fun _ =>
   some false))
 else
  some false

noncomputable def C17L0 (A : Ar) (x1 x2 : List D) : Int → Option ((Int) ⊕ ((Unit) ⊕ (Unit))) := fun v24 =>
 bif (A.zlt v24 (A.len x1)) then
  (gt A (cG (lc (cI .i64) (lc (cI .i64) (lc (cI .i64) (lc (cI .i64) (lc (cI .i64) (l1 (cI .i64)))))))) x1 v24).bind fun (a26, a27, a28, a29, a30, a31) =>
  (gt A (cG (lc (cI .i64) (lc (cI .i64) (lc (cI .i64) (lc (cI .i64) (lc (cI .i64) (l1 (cI .i64)))))))) x2 v24).bind fun (a35, a36, a37, a38, a39, a40) =>
  bif (A.deq [(.int .i64 a26), (.int .i64 a27), (.int .i64 a28), (.int .i64 a29), (.int .i64 a30), (.int .i64 a31)] [(.int .i64 a35), (.int .i64 a36), (.int .i64 a37), (.int .i64 a38), (.int .i64 a39), (.int .i64 a40)]) then
   some (.inl (A.wrp .i64 (A.zadd v24 1)))
  else
   some (.inr (.inr ()))
 else
  some (.inr (.inl ()))

/-- lineal linealref02.Same -/
noncomputable def C17 (A : Ar) (x1 x2 : List D) : Option (Bool) :=
 bif (A.zeq (A.len x1) (A.len x2)) then
  (iter (C17L0 A x1 x2) 0).bind (Sum.elim (fun _ =>
   some true) (fun _ =>
   some false))
 else
  some false

/-- slices.Clone   int int  -/
noncomputable def C54 (A : Ar) (x1 : List D) : Option (List D) :=
 bif (A.zlt 0 (A.len x1)) then
  (ap A [] x1).bind fun l4 =>
  some l4
 else
  both (
   some []) (
   (ap A [] x1).bind fun l8 =>
   some l8)

noncomputable def C113L0 (A : Ar) (x6 : Int) (a36 : List D) : Int → Option ((Int) ⊕ ((Unit) ⊕ (Unit))) := fun v50 =>
 bif (A.zlt v50 (A.len a36)) then
  (gt A (cI .i64) a36 v50).bind fun a52 =>
  ((
   bif (A.zlt a52 0) then
    some true
   else
    some (A.zle x6 a52) : Option (Bool))).bind fun v57 =>
  bif v57 then
   some (.inr (.inr ()))
  else
   some (.inl (A.wrp .i64 (A.zadd v50 1)))
 else
  some (.inr (.inl ()))

noncomputable def C113L1 (A : Ar) (x2 : Int) (x5 : List D) (x6 : Int) : Int → Option ((Int) ⊕ ((Unit) ⊕ (Unit))) := fun v34 =>
 bif (A.zlt v34 (A.len x5)) then
  (gt A (cL 1) x5 v34).bind fun a36 =>
  bif (A.zeq (A.len a36) x2) then
   (iter (C113L0 A x6 a36) 0).bind (Sum.elim (fun _ =>
    some (.inl (A.wrp .i64 (A.zadd v34 1)))) (fun _ =>
    some (.inr (.inr ()))))
  else
   some (.inr (.inr ()))
 else
  some (.inr (.inl ()))

/-- lineal linealref01.isTable -/
noncomputable def C113 (A : Ar) (x1 x2 : Int) (x3 x4 x5 : List D) (x6 : Int) : Option (Bool) :=
 bif (A.zeq (A.len x5) x1) then
  (iter (C113L1 A x2 x5 x6) 0).bind (Sum.elim (fun _ =>
   some true) (fun _ =>
   some false))
 else
  some false

/-- lineal linealref01.Valid -/
noncomputable def C58 (A : Ar) (x1 x2 : Int) (x3 x4 : List D) : Option (Bool) :=
 ((
  bif (A.zle 1 x1) then
   bif (A.zle x1 8) then
    bif (A.zle 1 x2) then
     bif (A.zle x2 4) then
      (C113 A x1 x2 x3 x4 x3 x1).bind fun r10 =>
      bif r10 then
       (C113 A x1 x2 x3 x4 x4 6).bind fun r13 =>
       some r13
      else
       some false
     else
      some false
    else
     some false
   else
    some false
  else
   some false : Option (Bool))).bind fun v14 =>
 some v14

/-- lineal lineallaw08.IsCase -/
noncomputable def C23 (A : Ar) (x1 x2 : Int) (x3 x4 x5 x6 : List D) : Option (Bool) :=
 ((
  (C9 A x1 x2 x3 x4 x5 x6).bind fun r8 =>
  bif r8 then
   some false
  else
   (C16 A x5).bind fun r11 =>
   bif r11 then
    (C58 A x1 x2 x3 x4).bind fun r14 =>
    bif r14 then
     bif (A.zeq x2 (A.len x5)) then
      (C43 A x5 x6).bind fun r18 =>
      some r18
     else
      some false
    else
     some false
   else
    some false : Option (Bool))).bind fun v19 =>
 some v19

/-- slices.Clone   lineal api.Line lineal api.Line  -/
noncomputable def C81 (A : Ar) (x1 : List D) : Option (List D) :=
 bif (A.zlt 0 (A.len x1)) then
  (ap A [] x1).bind fun l4 =>
  some l4
 else
  both (
   some []) (
   (ap A [] x1).bind fun l8 =>
   some l8)

/-- lineal code.Swapped$1 -/
noncomputable def C80 (A : Ar) (x1 x2 x3 : Int) (x4 : List D) : Option (List D) :=
 (gc A (cG (lc (cI .i64) (lc (cI .i64) (lc (cI .i64) (l1 (cI .i64)))))) x4 (A.nat x1)).bind fun (a5, a6, a7, a8) =>
 ((
  bif (A.zeq a7 x2) then
   some (A.lset x4 (A.nat x1) (.agg [(.int .i64 a5), (.int .i64 a6), (.int .i64 x3), (.int .i64 a8)]))
  else
   ((
    bif (A.zeq a7 x3) then
     some (A.lset x4 (A.nat x1) (.agg [(.int .i64 a5), (.int .i64 a6), (.int .i64 x2), (.int .i64 a8)]))
    else
     some x4 : Option (List D))).bind fun v13 =>
   some v13 : Option (List D))).bind fun v15 =>
 some v15

/-- lineal code.Swapped$1 -/
noncomputable def C80a (A : Ar) (x1 x2 x3 : Int) (x4 : List D) : Option (List D) :=
 (gc A (cG (lc (cI .i64) (lc (cI .i64) (lc (cI .i64) (l1 (cI .i64)))))) x4 (A.nat x1)).bind fun (a5, a6, a7, a8) =>
 ((
  bif (A.zeq a6 x2) then
   some (A.lset x4 (A.nat x1) (.agg [(.int .i64 a5), (.int .i64 x3), (.int .i64 a7), (.int .i64 a8)]))
  else
   ((
    bif (A.zeq a6 x3) then
     some (A.lset x4 (A.nat x1) (.agg [(.int .i64 a5), (.int .i64 x2), (.int .i64 a7), (.int .i64 a8)]))
    else
     some x4 : Option (List D))).bind fun v13 =>
   some v13 : Option (List D))).bind fun v15 =>
 some v15

noncomputable def C29L0 (A : Ar) (x2 x3 : Int) (r92 : List D) : (Int × List D) → Option ((Int × List D) ⊕ (List D)) := fun (v119, v120) =>
 bif (A.zlt v119 (A.len r92)) then
  (ck (A.zle 0 v119)).bind fun _ =>
  (ck (A.zlt v119 (A.len r92))).bind fun _ =>
  (gc A (cG (lc (cI .i64) (lc (cI .i64) (lc (cI .i64) (l1 (cI .i64)))))) v120 (A.nat (A.zadd 0 v119))).bind fun (a126, a127, a128, a129) =>
  ((
   bif (A.zeq a126 1) then
    (C80 A (A.zadd 0 v119) x2 x3 v120).bind fun r134 =>
    some r134
   else
    ((
     bif (A.zeq a126 2) then
      some true
     else
      some (A.zeq a126 3) : Option (Bool))).bind fun v136 =>
    ((
     bif v136 then
      (C80a A (A.zadd 0 v119) x2 x3 v120).bind fun r140 =>
      some r140
     else
      some v120 : Option (List D))).bind fun v141 =>
    some v141 : Option (List D))).bind fun v143 =>
  some (.inl ((A.wrp .i64 (A.zadd v119 1)), v143))
 else
  some (.inr v120)

noncomputable def C29L1 (A : Ar) (x1 : List D) (x2 x3 : Int) : (List D × Int) → Option ((List D × Int) ⊕ (List D)) := fun (v84, v85) =>
 bif (A.zlt v85 (A.len x1)) then
  (gt A (cL 4) x1 v85).bind fun a87 =>
  (C81 A a87).bind fun r92 =>
  bif (A.zlt 0 (A.len r92)) then
   (ck (scalars r92)).bind fun _ =>
   (iter (C29L0 A x2 x3 r92) (0, r92)).bind (fun v145 =>
   (fz A v145 0 (A.len r92)).bind fun l147 =>
   (ap A v84 [(.list 4 l147)]).bind fun l151 =>
   some (.inl (l151, (A.wrp .i64 (A.zadd v85 1)))))
  else
   none
 else
  some (.inr v84)

/-- lineal code.Swapped -/
noncomputable def C29 (A : Ar) (x1 : List D) (x2 x3 : Int) : Option (List D × Int) :=
 (C15 A x1).bind fun r5 =>
 bif r5 then
  ((
   (C79 A x2).bind fun r8 =>
   bif r8 then
    (C79 A x3).bind fun r11 =>
    some (!r11)
   else
    some true : Option (Bool))).bind fun v12 =>
  bif v12 then
   some ([], 2)
  else
   (iter (C29L1 A x1 x2 x3) ([], 0)).bind (fun v155 =>
   some (v155, 0))
 else
  some ([], 80)

noncomputable def C31L0 (A : Ar) (a50 a54 : List D) : Int → Option ((Int) ⊕ ((Unit) ⊕ (Unit))) := fun v75 =>
 bif (A.zlt v75 (A.len a50)) then
  (gt A (cG (lc (cI .i64) (lc (cI .i64) (lc (cI .i64) (l1 (cI .i64)))))) a50 v75).bind fun (a77, a78, a79, a80) =>
  (gt A (cG (lc (cI .i64) (lc (cI .i64) (lc (cI .i64) (l1 (cI .i64)))))) a54 v75).bind fun (a84, a85, a86, a87) =>
  bif (A.deq [(.int .i64 a77), (.int .i64 a78), (.int .i64 a79), (.int .i64 a80)] [(.int .i64 a84), (.int .i64 a85), (.int .i64 a86), (.int .i64 a87)]) then
   some (.inl (A.wrp .i64 (A.zadd v75 1)))
  else
   some (.inr (.inr ()))
 else
  some (.inr (.inl ()))

noncomputable def C31L1 (A : Ar) (x1 x2 : List D) : Int → Option ((Int) ⊕ ((Unit) ⊕ (Unit))) := fun v48 =>
 bif (A.zlt v48 (A.len x1)) then
  (gt A (cL 4) x1 v48).bind fun a50 =>
  (gt A (cL 4) x2 v48).bind fun a54 =>
  bif (A.zeq (A.len a50) (A.len a54)) then
   (iter (C31L0 A a50 a54) 0).bind (Sum.elim (fun _ =>
    some (.inl (A.wrp .i64 (A.zadd v48 1)))) (fun _ =>
    some (.inr (.inr ()))))
  else
   some (.inr (.inr ()))
 else
  some (.inr (.inl ()))

/-- lineal linealref08.SameCode -/
noncomputable def C31 (A : Ar) (x1 x2 : List D) : Option (Bool) :=
 bif (A.zeq (A.len x1) (A.len x2)) then
  (iter (C31L1 A x1 x2) 0).bind (Sum.elim (fun _ =>
   some true) (fun _ =>
   some false))
 else
  some false

/-- lineal code.isSteps -/
noncomputable def C84 (A : Ar) (x1 : Int) : Option (Bool) :=
 (C47 A 0 x1 12).bind fun r3 =>
 some r3

/--  *lineal code.run .has -/
noncomputable def C70b (A : Ar) (x1 : Int) (x2 x3 : List D) (x4 x5 x6 x7 x8 x9 x10 x11 x12 x13 x14 x15 x16 x17 x18 x19 x20 x21 : Int) (x22 x23 : List D) : Option (Bool) :=
 ((
  (C47 A 0 x1 (A.wrp .i64 (A.zsub (A.len x3) 1))).bind fun r25 =>
  bif r25 then
   bif (A.zeq x1 0) then
    (gt A (cL 1) x3 x1).bind fun a29 =>
    some (A.zlt x4 (A.len a29))
   else
    bif (A.zeq x1 1) then
     (gt A (cL 1) x3 x1).bind fun a36 =>
     some (A.zlt x11 (A.len a36))
    else
     none
  else
   some false : Option (Bool))).bind fun v41 =>
 some v41

noncomputable def C56aL0 (A : Ar) (x1 x2 : List D) (x3 x4 x5 x6 x7 x8 x9 x10 x11 x12 x13 x14 x15 x16 x17 x18 x19 x20 : Int) (x21 x22 : List D) : (List D × Int) → Option ((List D × Int) ⊕ (List D)) := fun (v33, v34) =>
 bif (A.zlt v34 (A.len x2)) then
  (C70b A v34 x1 x2 x3 x4 x5 x6 x7 x8 x9 x10 x11 x12 x13 x14 x15 x16 x17 x18 x19 x20 x21 x22).bind fun r37 =>
  ((
   bif r37 then
    (ap A v33 [(.int .i64 v34)]).bind fun l39 =>
    some l39
   else
    some v33 : Option (List D))).bind fun v43 =>
  some (.inl (v43, (A.wrp .i64 (A.zadd v34 1))))
 else
  some (.inr v33)

/--  *lineal code.run .left -/
noncomputable def C56a (A : Ar) (x1 x2 : List D) (x3 x4 x5 x6 x7 x8 x9 x10 x11 x12 x13 x14 x15 x16 x17 x18 x19 x20 : Int) (x21 x22 : List D) : Option (List D) :=
 (iter (C56aL0 A x1 x2 x3 x4 x5 x6 x7 x8 x9 x10 x11 x12 x13 x14 x15 x16 x17 x18 x19 x20 x21 x22) ([], 0)).bind (fun v45 =>
 some v45)

/-- lineal code.Histories$1 -/
noncomputable def C93 (A : Ar) (x1 x2 : List D) (x3 x4 x5 x6 x7 x8 x9 x10 x11 x12 x13 x14 x15 x16 x17 x18 x19 x20 : Int) (x21 x22 x23 x24 : List D) : Option (List D) :=
 (ap A x24 [(.list 6 x21)]).bind fun l25 =>
 some l25

/-- slices.Clone   lineal api.Call lineal api.Call  -/
noncomputable def C146 (A : Ar) (x1 : List D) : Option (List D) :=
 bif (A.zlt 0 (A.len x1)) then
  (ap A [] x1).bind fun l4 =>
  some l4
 else
  both (
   some []) (
   (ap A [] x1).bind fun l8 =>
   some l8)

/--  lineal code.run .clone -/
noncomputable def C124 (A : Ar) (x1 x2 : List D) (x3 x4 x5 x6 x7 x8 x9 x10 x11 x12 x13 x14 x15 x16 x17 x18 x19 x20 : Int) (x21 x22 : List D) : Option (List D × List D × Int × Int × Int × Int × Int × Int × Int × Int × Int × Int × Int × Int × Int × Int × Int × Int × Int × Int × List D × List D) :=
 (C146 A x21).bind fun r24 =>
 (ck (scalars r24)).bind fun _ =>
 (C54 A x22).bind fun r27 =>
 (ck (scalars r27)).bind fun _ =>
 some (x1, x2, x3, x4, x5, x6, x7, x8, x9, x10, x11, x12, x13, x14, x15, x16, x17, x18, x19, x20, r24, r27)

noncomputable def C85aL0 (A : Ar) (x1 x2 : List D) (x3 x4 x5 x6 x7 x8 x9 x10 x11 x12 x13 x14 x15 x16 x17 x18 x19 x20 : Int) (x21 x22 : List D) (x23 : Int) (x24 x25 r28 : List D) (self140 : List D → List D → Int → Int → Int → Int → Int → Int → Int → Int → Int → Int → Int → Int → Int → Int → Int → Int → Int → Int → List D → List D → Int → List D → List D → List D → (Option (Bool × List D))) : (Int × List D) → Option ((Int × List D) ⊕ ((List D) ⊕ (List D × List D × List D × Int × Int × Int × Int × Int × Int × Int × Int × Int × Int × Int × Int × Int × Int × Int × Int × Int × Int × List D × List D))) := fun (v102, v103) =>
 bif (A.zlt v102 (A.len r28)) then
  (gt A (cI .i64) r28 v102).bind fun a105 =>
  (C124 A x1 x2 x3 x4 x5 x6 x7 x8 x9 x10 x11 x12 x13 x14 x15 x16 x17 x18 x19 x20 x21 x22).bind fun (r110, r111, r112, r113, r114, r115, r116, r117, r118, r119, r120, r121, r122, r123, r124, r125, r126, r127, r128, r129, r130, r131) =>
  (C71 A a105 x24 r110 r111 r112 r113 r114 r115 r116 r117 r118 r119 r120 r121 r122 r123 r124 r125 r126 r127 r128 r129 r130 r131).bind fun (r133, r134, r135, r136, r137, r138, r139, r140, r141, r142, r143, r144, r145, r146, r147, r148, r149, r150, r151, r152, r153, r154) =>
  (sl A x25 0 (A.len x25)).bind fun l155 =>
  (ck (A.zeq (A.len x25) (A.len x25))).bind fun _ =>
  (ap A l155 [(.int .i64 a105)]).bind fun l163 =>
  (self140 r133 r134 r135 r136 r137 r138 r139 r140 r141 r142 r143 r144 r145 r146 r147 r148 r149 r150 r151 r152 r153 r154 x23 x24 l163 v103).bind fun (r168, r169) =>
  bif r168 then
   some (.inl ((A.wrp .i64 (A.zadd v102 1)), r169))
  else
   some (.inr (.inr (r169, r133, r134, r135, r136, r137, r138, r139, r140, r141, r142, r143, r144, r145, r146, r147, r148, r149, r150, r151, r152, r153, r154)))
 else
  some (.inr (.inl v103))

/--  lineal code.run .all -/
noncomputable def C85aB (A : Ar) (self140 : List D → List D → Int → Int → Int → Int → Int → Int → Int → Int → Int → Int → Int → Int → Int → Int → Int → Int → Int → Int → List D → List D → Int → List D → List D → List D → (Option (Bool × List D))) (x1 x2 : List D) (x3 x4 x5 x6 x7 x8 x9 x10 x11 x12 x13 x14 x15 x16 x17 x18 x19 x20 : Int) (x21 x22 : List D) (x23 : Int) (x24 x25 x26 : List D) : Option (Bool × List D) :=
 (C56a A x1 x2 x3 x4 x5 x6 x7 x8 x9 x10 x11 x12 x13 x14 x15 x16 x17 x18 x19 x20 x21 x22).bind fun r28 =>
 ((
  bif (A.zeq (A.len r28) 0) then
   some true
  else
   some (A.zeq x20 x23) : Option (Bool))).bind fun v30 =>
 bif v30 then
  (C93 A x1 x2 x3 x4 x5 x6 x7 x8 x9 x10 x11 x12 x13 x14 x15 x16 x17 x18 x19 x20 x21 x22 x25 x26).bind fun r34 =>
  some (true, r34)
 else
  (iter (C85aL0 A x1 x2 x3 x4 x5 x6 x7 x8 x9 x10 x11 x12 x13 x14 x15 x16 x17 x18 x19 x20 x21 x22 x23 x24 x25 r28 self140) (0, x26)).bind (Sum.elim (fun v171 =>
   some (true, v171)) (fun (v172, v173, v174, v175, v176, v177, v178, v179, v180, v181, v182, v183, v184, v185, v186, v187, v188, v189, v190, v191, v192, v193, v194) =>
   some (false, v172)))

noncomputable def C85aR (A : Ar) : Nat → List D → List D → Int → Int → Int → Int → Int → Int → Int → Int → Int → Int → Int → Int → Int → Int → Int → Int → Int → Int → List D → List D → Int → List D → List D → List D → (Option (Bool × List D))
 | 0 => fun _ _ _ _ _ _ _ _ _ _ _ _ _ _ _ _ _ _ _ _ _ _ _ _ _ _ => none
 | n + 1 => fun x1 x2 x3 x4 x5 x6 x7 x8 x9 x10 x11 x12 x13 x14 x15 x16 x17 x18 x19 x20 x21 x22 x23 x24 x25 x26 => C85aB A (C85aR A n) x1 x2 x3 x4 x5 x6 x7 x8 x9 x10 x11 x12 x13 x14 x15 x16 x17 x18 x19 x20 x21 x22 x23 x24 x25 x26

noncomputable def C85a (A : Ar) (x1 x2 : List D) (x3 x4 x5 x6 x7 x8 x9 x10 x11 x12 x13 x14 x15 x16 x17 x18 x19 x20 : Int) (x21 x22 : List D) (x23 : Int) (x24 x25 x26 : List D) : Option (Bool × List D) := C85aR A fuel x1 x2 x3 x4 x5 x6 x7 x8 x9 x10 x11 x12 x13 x14 x15 x16 x17 x18 x19 x20 x21 x22 x23 x24 x25 x26

noncomputable def C85L0 (A : Ar) (x1 x2 : List D) (x3 x4 x5 x6 x7 x8 x9 x10 x11 x12 x13 x14 x15 x16 x17 x18 x19 x20 x21 : Int) (x22 x23 x25 x26 r28 : List D) : (Int × List D) → Option ((Int × List D) ⊕ ((List D) ⊕ (List D × List D × List D × Int × Int × Int × Int × Int × Int × Int × Int × Int × Int × Int × Int × Int × Int × Int × Int × Int × Int × List D × List D))) := fun (v102, v103) =>
 bif (A.zlt v102 (A.len r28)) then
  (gt A (cI .i64) r28 v102).bind fun a105 =>
  (C124 A x1 x2 x3 x4 x5 x6 x7 x8 x9 x10 x11 x12 x13 x14 x15 x16 x17 x18 x19 x20 x25 x26).bind fun (r110, r111, r112, r113, r114, r115, r116, r117, r118, r119, r120, r121, r122, r123, r124, r125, r126, r127, r128, r129, r130, r131) =>
  (C71 A a105 x22 r110 r111 r112 r113 r114 r115 r116 r117 r118 r119 r120 r121 r122 r123 r124 r125 r126 r127 r128 r129 r130 r131).bind fun (r133, r134, r135, r136, r137, r138, r139, r140, r141, r142, r143, r144, r145, r146, r147, r148, r149, r150, r151, r152, r153, r154) =>
  (sl A x23 0 (A.len x23)).bind fun l155 =>
  (ck (A.zeq (A.len x23) (A.len x23))).bind fun _ =>
  (ap A l155 [(.int .i64 a105)]).bind fun l163 =>
  (C85a A r133 r134 r135 r136 r137 r138 r139 r140 r141 r142 r143 r144 r145 r146 r147 r148 r149 r150 r151 r152 r153 r154 x21 x22 l163 v103).bind fun (r168, r169) =>
  bif r168 then
   some (.inl ((A.wrp .i64 (A.zadd v102 1)), r169))
  else
   some (.inr (.inr (r169, r133, r134, r135, r136, r137, r138, r139, r140, r141, r142, r143, r144, r145, r146, r147, r148, r149, r150, r151, r152, r153, r154)))
 else
  some (.inr (.inl v103))

/--  lineal code.run .all -/
noncomputable def C85 (A : Ar) (x1 x2 : List D) (x3 x4 x5 x6 x7 x8 x9 x10 x11 x12 x13 x14 x15 x16 x17 x18 x19 x20 x21 : Int) (x22 x23 x24 x25 x26 : List D) : Option (Bool × List D) :=
 (C56a A x1 x2 x3 x4 x5 x6 x7 x8 x9 x10 x11 x12 x13 x14 x15 x16 x17 x18 x19 x20 x25 x26).bind fun r28 =>
 ((
  bif (A.zeq (A.len r28) 0) then
   some true
  else
   some (A.zeq x20 x21) : Option (Bool))).bind fun v30 =>
 bif v30 then
  (C93 A x1 x2 x3 x4 x5 x6 x7 x8 x9 x10 x11 x12 x13 x14 x15 x16 x17 x18 x19 x20 x25 x26 x23 x24).bind fun r34 =>
  some (true, r34)
 else
  (iter (C85L0 A x1 x2 x3 x4 x5 x6 x7 x8 x9 x10 x11 x12 x13 x14 x15 x16 x17 x18 x19 x20 x21 x22 x23 x25 x26 r28) (0, x24)).bind (Sum.elim (fun v171 =>
   some (true, v171)) (fun (v172, v173, v174, v175, v176, v177, v178, v179, v180, v181, v182, v183, v184, v185, v186, v187, v188, v189, v190, v191, v192, v193, v194) =>
   some (false, v172)))

noncomputable def C94 (A : Ar) (x1 : List D) : Option Unit := ck (A.zeq (A.len x1) 0)

noncomputable def C132L0 (A : Ar) (x1 : List D) : Int → Option ((Int) ⊕ ((Unit) ⊕ (Int))) := fun v8 =>
 bif (A.zlt v8 (A.len x1)) then
  (gt A (cI .i64) x1 v8).bind fun a10 =>
  bif (A.zeq a10 0) then
   some (.inl (A.wrp .i64 (A.zadd v8 1)))
  else
   some (.inr (.inr a10))
 else
  some (.inr (.inl ()))

/-- cmp.Or int  -/
noncomputable def C132 (A : Ar) (x1 : List D) : Option (Int) :=
 (iter (C132L0 A x1) 0).bind (Sum.elim (fun _ =>
  some 0) (fun v15 =>
  some v15))

/-- lineal code.compare -/
noncomputable def C97 (A : Ar) (x1 x2 x3 x4 x5 x6 x7 x8 x9 x10 x11 x12 : Int) : Option (Int) :=
 (C132 A [(.int .i64 (A.wrp .i64 (A.zsub x1 x7))), (.int .i64 (A.wrp .i64 (A.zsub x3 x9))), (.int .i64 (A.wrp .i64 (A.zsub x4 x10))), (.int .i64 (A.wrp .i64 (A.zsub x5 x11))), (.int .i64 (A.wrp .i64 (A.zsub x6 x12)))]).bind fun r14 =>
 some r14

noncomputable def C96L0 (A : Ar) (x1 x2 : List D) : Int → Option ((Int) ⊕ ((Unit) ⊕ (Int))) := fun v26 =>
 bif (A.zlt v26 (A.len x1)) then
  (gt A (cG (lc (cI .i64) (lc (cI .i64) (lc (cI .i64) (lc (cI .i64) (lc (cI .i64) (l1 (cI .i64)))))))) x1 v26).bind fun (a28, a29, a30, a31, a32, a33) =>
  bif (A.zle (A.len x2) v26) then
   some (.inr (.inr 1))
  else
   (gt A (cG (lc (cI .i64) (lc (cI .i64) (lc (cI .i64) (lc (cI .i64) (lc (cI .i64) (l1 (cI .i64)))))))) x2 v26).bind fun (a38, a39, a40, a41, a42, a43) =>
   (C97 A a28 a29 a30 a31 a32 a33 a38 a39 a40 a41 a42 a43).bind fun r48 =>
   bif (A.zeq r48 0) then
    some (.inl (A.wrp .i64 (A.zadd v26 1)))
   else
    some (.inr (.inr r48))
 else
  some (.inr (.inl ()))

/-- slices.CompareFunc   lineal api.Call   lineal api.Call lineal api.Call lineal api.Call  -/
noncomputable def C96 (A : Ar) (x1 x2 : List D) : Option (Int) :=
 (iter (C96L0 A x1 x2) 0).bind (Sum.elim (fun _ =>
  bif (A.zlt (A.len x1) (A.len x2)) then
   some (-1)
  else
   some 0) (fun v50 =>
  some v50))

/-- lineal code.Histories$2 -/
noncomputable def C95 (A : Ar) (x1 x2 : List D) : Option (Int) :=
 (C96 A x1 x2).bind fun r4 =>
 some r4

noncomputable def C94a (A : Ar) (x1 x2 x3 x4 : Int) (x5 : List D) : Option (List D) := srt (cL 6) (fun a0 b0 => C95 A a0 b0) x1 x2 x5

noncomputable def C99L0 (A : Ar) (x1 x2 : List D) : Int → Option ((Int) ⊕ ((Unit) ⊕ (Unit))) := fun v24 =>
 bif (A.zlt v24 (A.len x1)) then
  (gt A (cG (lc (cI .i64) (lc (cI .i64) (lc (cI .i64) (lc (cI .i64) (lc (cI .i64) (l1 (cI .i64)))))))) x1 v24).bind fun (a26, a27, a28, a29, a30, a31) =>
  (gt A (cG (lc (cI .i64) (lc (cI .i64) (lc (cI .i64) (lc (cI .i64) (lc (cI .i64) (l1 (cI .i64)))))))) x2 v24).bind fun (a35, a36, a37, a38, a39, a40) =>
  bif (A.deq [(.int .i64 a26), (.int .i64 a27), (.int .i64 a28), (.int .i64 a29), (.int .i64 a30), (.int .i64 a31)] [(.int .i64 a35), (.int .i64 a36), (.int .i64 a37), (.int .i64 a38), (.int .i64 a39), (.int .i64 a40)]) then
   some (.inl (A.wrp .i64 (A.zadd v24 1)))
  else
   some (.inr (.inr ()))
 else
  some (.inr (.inl ()))

/-- slices.Equal   lineal api.Call lineal api.Call  -/
noncomputable def C99 (A : Ar) (x1 x2 : List D) : Option (Bool) :=
 bif (A.zeq (A.len x1) (A.len x2)) then
  (iter (C99L0 A x1 x2) 0).bind (Sum.elim (fun _ =>
   some true) (fun _ =>
   some false))
 else
  some false

noncomputable def C98L0 (A : Ar) (x1 x2 v119 : Int) : (Int × Int × List D) → Option ((Int × Int × List D) ⊕ (Int × List D)) := fun (v178, v179, v180) =>
 bif (A.zlt v179 (A.zsub x2 v119)) then
  (ck (A.zle 0 v179)).bind fun _ =>
  (ck (A.zlt v179 (A.zsub x2 v119))).bind fun _ =>
  (gc A (cL 6) v180 (A.nat (A.zadd (A.zadd x1 v119) v179))).bind fun a186 =>
  (ck (A.zle 0 (A.wrp .i64 (A.zsub v179 1)))).bind fun _ =>
  (ck (A.zlt (A.wrp .i64 (A.zsub v179 1)) (A.zsub x2 v119))).bind fun _ =>
  (gc A (cL 6) v180 (A.nat (A.zadd (A.zadd x1 v119) (A.wrp .i64 (A.zsub v179 1))))).bind fun a193 =>
  (C99 A a186 a193).bind fun r197 =>
  ((
   bif r197 then
    some (v178, v180)
   else
    (ck (A.zle 0 v179)).bind fun _ =>
    (ck (A.zlt v179 (A.zsub x2 v119))).bind fun _ =>
    (gc A (cL 6) v180 (A.nat (A.zadd (A.zadd x1 v119) v179))).bind fun a203 =>
    (ck (A.zle 0 v178)).bind fun _ =>
    (ck (A.zlt v178 x2)).bind fun _ =>
    (A.lget v180 (A.nat (A.zadd x1 v178))).bind fun d210 =>
    some ((A.wrp .i64 (A.zadd v178 1)), (A.lset v180 (A.nat (A.zadd x1 v178)) (.list 6 a203))) : Option (Int × List D))).bind fun (v212, v213) =>
  some (.inl (v212, (A.wrp .i64 (A.zadd v179 1)), v213))
 else
  some (.inr (v178, v180))

noncomputable def C98L1 (A : Ar) (x1 x2 : Int) (x5 : List D) : Int → Option ((Int) ⊕ ((Unit) ⊕ (Int × List D))) := fun v119 =>
 bif (A.zlt v119 x2) then
  (ck (A.zle 0 v119)).bind fun _ =>
  (ck (A.zlt v119 x2)).bind fun _ =>
  (gc A (cL 6) x5 (A.nat (A.zadd x1 v119))).bind fun a125 =>
  (ck (A.zle 0 (A.wrp .i64 (A.zsub v119 1)))).bind fun _ =>
  (ck (A.zlt (A.wrp .i64 (A.zsub v119 1)) x2)).bind fun _ =>
  (gc A (cL 6) x5 (A.nat (A.zadd x1 (A.wrp .i64 (A.zsub v119 1))))).bind fun a132 =>
  (C99 A a125 a132).bind fun r136 =>
  bif r136 then
   (ck (A.zle 0 v119)).bind fun _ =>
   (ck (A.zle v119 x2)).bind fun _ =>
   (ck (A.zle x2 x2)).bind fun _ =>
   (iter (C98L0 A x1 x2 v119) (v119, 1, x5)).bind (fun (v215, v216) =>
   (ck (A.zle 0 v215)).bind fun _ =>
   (ck (A.zle v215 x2)).bind fun _ =>
   (ck (A.zle x2 x2)).bind fun _ =>
   (ck (A.zle (A.zadd (A.zadd x1 v215) (A.zsub x2 v215)) (A.len v216))).bind fun _ =>
   (ck (A.zle 0 0)).bind fun _ =>
   (ck (A.zle 0 v215)).bind fun _ =>
   (ck (A.zle v215 x2)).bind fun _ =>
   some (.inr (.inr ((A.zsub v215 0), (A.fill v216 (A.zadd x1 v215) (A.zsub x2 v215) (.list 6 []))))))
  else
   some (.inl (A.wrp .i64 (A.zadd v119 1)))
 else
  some (.inr (.inl ()))

/-- slices.CompactFunc     lineal api.Call   lineal api.Call  -/
noncomputable def C98 (A : Ar) (x1 x2 x3 x4 : Int) (x5 : List D) : Option (Int × Int × List D) :=
 bif (A.zlt x2 2) then
  some (x1, x2, x5)
 else
  (iter (C98L1 A x1 x2 x5) 1).bind (Sum.elim (fun _ =>
   some (x1, x2, x5)) (fun (v232, v233) =>
   some ((A.zadd x1 0), v232, v233)))

noncomputable def C98aL0 (A : Ar) (l66 : List D) : Int → Option ((Int) ⊕ (Unit)) := fun v84 =>
 bif (A.zlt v84 (A.len l66)) then
  (gt A (cL 6) l66 v84).bind fun a86 =>
  (gt A (cL 6) l66 (A.wrp .i64 (A.zsub v84 1))).bind fun a90 =>
  (C99 A a86 a90).bind fun r95 =>
  bif r95 then
   some (.inl (A.wrp .i64 (A.zadd v84 1)))
  else
   none
 else
  some (.inr ())

noncomputable def C98aL1 (A : Ar) (x1 : List D) : Int → Option ((Int) ⊕ (Unit)) := fun v53 =>
 bif (A.zlt v53 (A.len x1)) then
  (gt A (cL 6) x1 v53).bind fun a55 =>
  (gt A (cL 6) x1 (A.wrp .i64 (A.zsub v53 1))).bind fun a59 =>
  (C99 A a55 a59).bind fun r64 =>
  bif r64 then
   (sl A x1 v53 (A.len x1)).bind fun l66 =>
   (iter (C98aL0 A l66) 1).bind (fun _ =>
   (sl A x1 v53 (A.len x1)).bind fun l98 =>
   none)
  else
   some (.inl (A.wrp .i64 (A.zadd v53 1)))
 else
  some (.inr ())

/-- slices.CompactFunc     lineal api.Call   lineal api.Call  -/
noncomputable def C98a (A : Ar) (x1 : List D) : Option (List D) :=
 bif (A.zlt (A.len x1) 2) then
  some x1
 else
  (iter (C98aL1 A x1) 1).bind (fun _ =>
  some x1)

/-- lineal code.Histories -/
noncomputable def C38 (A : Ar) (x1 x2 : List D) (x3 : Int) : Option (List D × Int) :=
 (C89 A x1 x2).bind fun r5 =>
 bif (A.zeq r5 0) then
  (C84 A x3).bind fun r8 =>
  bif r8 then
   (C69 A x1 x2).bind fun (r11, r12) =>
   (C85 A r11 r12 0 0 0 0 0 0 0 0 0 0 0 0 0 0 0 0 0 0 x3 [] [] [] [] []).bind fun (r14, r15) =>
   bif (A.zlt 0 (A.len r15)) then
    (ck (loose r15)).bind fun _ =>
    (C94a A 0 (A.len r15) 0 (A.len r15) r15).bind fun r20 =>
    (C98 A 0 (A.len r15) 0 (A.len r15) r20).bind fun (r22, r23, r24) =>
    (fz A r24 r22 r23).bind fun l25 =>
    some (l25, 0)
   else
    (C94 A r15).bind fun () =>
    (C98a A r15).bind fun r30 =>
    some (r30, 0)
  else
   some ([], 2)
 else
  some ([], r5)

noncomputable def C40L0 (A : Ar) (x1 x2 : List D) : Int → Option ((Int) ⊕ ((Unit) ⊕ (Unit))) := fun v16 =>
 bif (A.zlt v16 (A.len x1)) then
  (gt A (cL 6) x1 v16).bind fun a18 =>
  (gt A (cL 6) x2 v16).bind fun a22 =>
  (C17 A a18 a22).bind fun r27 =>
  bif r27 then
   some (.inl (A.wrp .i64 (A.zadd v16 1)))
  else
   some (.inr (.inr ()))
 else
  some (.inr (.inl ()))

/-- lineal linealref08.SameHistories -/
noncomputable def C40 (A : Ar) (x1 x2 : List D) : Option (Bool) :=
 bif (A.zeq (A.len x1) (A.len x2)) then
  (iter (C40L0 A x1 x2) 0).bind (Sum.elim (fun _ =>
   some true) (fun _ =>
   some false))
 else
  some false

/-- lineal code.Schedules$1 -/
noncomputable def C90 (A : Ar) (x1 x2 : List D) (x3 x4 x5 x6 x7 x8 x9 x10 x11 x12 x13 x14 x15 x16 x17 x18 x19 x20 : Int) (x21 x22 x23 : List D) (x24 : Int) : Option (Int) :=
 some (A.wrp .i64 (A.zadd x24 1))

noncomputable def C85cL0 (A : Ar) (x1 x2 : List D) (x3 x4 x5 x6 x7 x8 x9 x10 x11 x12 x13 x14 x15 x16 x17 x18 x19 x20 : Int) (x21 x22 : List D) (x23 : Int) (x24 x25 r28 : List D) (self152 : List D → List D → Int → Int → Int → Int → Int → Int → Int → Int → Int → Int → Int → Int → Int → Int → Int → Int → Int → Int → List D → List D → Int → List D → List D → Int → (Option (Bool × Int))) : (Int × Int) → Option ((Int × Int) ⊕ ((Int) ⊕ (Int × List D × List D × Int × Int × Int × Int × Int × Int × Int × Int × Int × Int × Int × Int × Int × Int × Int × Int × Int × Int × List D × List D))) := fun (v102, v103) =>
 bif (A.zlt v102 (A.len r28)) then
  (gt A (cI .i64) r28 v102).bind fun a105 =>
  (C124 A x1 x2 x3 x4 x5 x6 x7 x8 x9 x10 x11 x12 x13 x14 x15 x16 x17 x18 x19 x20 x21 x22).bind fun (r110, r111, r112, r113, r114, r115, r116, r117, r118, r119, r120, r121, r122, r123, r124, r125, r126, r127, r128, r129, r130, r131) =>
  (C71 A a105 x24 r110 r111 r112 r113 r114 r115 r116 r117 r118 r119 r120 r121 r122 r123 r124 r125 r126 r127 r128 r129 r130 r131).bind fun (r133, r134, r135, r136, r137, r138, r139, r140, r141, r142, r143, r144, r145, r146, r147, r148, r149, r150, r151, r152, r153, r154) =>
  (sl A x25 0 (A.len x25)).bind fun l155 =>
  (ck (A.zeq (A.len x25) (A.len x25))).bind fun _ =>
  (ap A l155 [(.int .i64 a105)]).bind fun l163 =>
  (self152 r133 r134 r135 r136 r137 r138 r139 r140 r141 r142 r143 r144 r145 r146 r147 r148 r149 r150 r151 r152 r153 r154 x23 x24 l163 v103).bind fun (r168, r169) =>
  bif r168 then
   some (.inl ((A.wrp .i64 (A.zadd v102 1)), r169))
  else
   some (.inr (.inr (r169, r133, r134, r135, r136, r137, r138, r139, r140, r141, r142, r143, r144, r145, r146, r147, r148, r149, r150, r151, r152, r153, r154)))
 else
  some (.inr (.inl v103))

/--  lineal code.run .all -/
noncomputable def C85cB (A : Ar) (self152 : List D → List D → Int → Int → Int → Int → Int → Int → Int → Int → Int → Int → Int → Int → Int → Int → Int → Int → Int → Int → List D → List D → Int → List D → List D → Int → (Option (Bool × Int))) (x1 x2 : List D) (x3 x4 x5 x6 x7 x8 x9 x10 x11 x12 x13 x14 x15 x16 x17 x18 x19 x20 : Int) (x21 x22 : List D) (x23 : Int) (x24 x25 : List D) (x26 : Int) : Option (Bool × Int) :=
 (C56a A x1 x2 x3 x4 x5 x6 x7 x8 x9 x10 x11 x12 x13 x14 x15 x16 x17 x18 x19 x20 x21 x22).bind fun r28 =>
 ((
  bif (A.zeq (A.len r28) 0) then
   some true
  else
   some (A.zeq x20 x23) : Option (Bool))).bind fun v30 =>
 bif v30 then
  (C90 A x1 x2 x3 x4 x5 x6 x7 x8 x9 x10 x11 x12 x13 x14 x15 x16 x17 x18 x19 x20 x21 x22 x25 x26).bind fun r34 =>
  some (true, r34)
 else
  (iter (C85cL0 A x1 x2 x3 x4 x5 x6 x7 x8 x9 x10 x11 x12 x13 x14 x15 x16 x17 x18 x19 x20 x21 x22 x23 x24 x25 r28 self152) (0, x26)).bind (Sum.elim (fun v171 =>
   some (true, v171)) (fun (v172, v173, v174, v175, v176, v177, v178, v179, v180, v181, v182, v183, v184, v185, v186, v187, v188, v189, v190, v191, v192, v193, v194) =>
   some (false, v172)))

noncomputable def C85cR (A : Ar) : Nat → List D → List D → Int → Int → Int → Int → Int → Int → Int → Int → Int → Int → Int → Int → Int → Int → Int → Int → Int → Int → List D → List D → Int → List D → List D → Int → (Option (Bool × Int))
 | 0 => fun _ _ _ _ _ _ _ _ _ _ _ _ _ _ _ _ _ _ _ _ _ _ _ _ _ _ => none
 | n + 1 => fun x1 x2 x3 x4 x5 x6 x7 x8 x9 x10 x11 x12 x13 x14 x15 x16 x17 x18 x19 x20 x21 x22 x23 x24 x25 x26 => C85cB A (C85cR A n) x1 x2 x3 x4 x5 x6 x7 x8 x9 x10 x11 x12 x13 x14 x15 x16 x17 x18 x19 x20 x21 x22 x23 x24 x25 x26

noncomputable def C85c (A : Ar) (x1 x2 : List D) (x3 x4 x5 x6 x7 x8 x9 x10 x11 x12 x13 x14 x15 x16 x17 x18 x19 x20 : Int) (x21 x22 : List D) (x23 : Int) (x24 x25 : List D) (x26 : Int) : Option (Bool × Int) := C85cR A fuel x1 x2 x3 x4 x5 x6 x7 x8 x9 x10 x11 x12 x13 x14 x15 x16 x17 x18 x19 x20 x21 x22 x23 x24 x25 x26

noncomputable def C85bL0 (A : Ar) (x1 x2 : List D) (x3 x4 x5 x6 x7 x8 x9 x10 x11 x12 x13 x14 x15 x16 x17 x18 x19 x20 x21 : Int) (x22 x23 x25 x26 r28 : List D) : (Int × Int) → Option ((Int × Int) ⊕ ((Int) ⊕ (Int × List D × List D × Int × Int × Int × Int × Int × Int × Int × Int × Int × Int × Int × Int × Int × Int × Int × Int × Int × Int × List D × List D))) := fun (v102, v103) =>
 bif (A.zlt v102 (A.len r28)) then
  (gt A (cI .i64) r28 v102).bind fun a105 =>
  (C124 A x1 x2 x3 x4 x5 x6 x7 x8 x9 x10 x11 x12 x13 x14 x15 x16 x17 x18 x19 x20 x25 x26).bind fun (r110, r111, r112, r113, r114, r115, r116, r117, r118, r119, r120, r121, r122, r123, r124, r125, r126, r127, r128, r129, r130, r131) =>
  (C71 A a105 x22 r110 r111 r112 r113 r114 r115 r116 r117 r118 r119 r120 r121 r122 r123 r124 r125 r126 r127 r128 r129 r130 r131).bind fun (r133, r134, r135, r136, r137, r138, r139, r140, r141, r142, r143, r144, r145, r146, r147, r148, r149, r150, r151, r152, r153, r154) =>
  (sl A x23 0 (A.len x23)).bind fun l155 =>
  (ck (A.zeq (A.len x23) (A.len x23))).bind fun _ =>
  (ap A l155 [(.int .i64 a105)]).bind fun l163 =>
  (C85c A r133 r134 r135 r136 r137 r138 r139 r140 r141 r142 r143 r144 r145 r146 r147 r148 r149 r150 r151 r152 r153 r154 x21 x22 l163 v103).bind fun (r168, r169) =>
  bif r168 then
   some (.inl ((A.wrp .i64 (A.zadd v102 1)), r169))
  else
   some (.inr (.inr (r169, r133, r134, r135, r136, r137, r138, r139, r140, r141, r142, r143, r144, r145, r146, r147, r148, r149, r150, r151, r152, r153, r154)))
 else
  some (.inr (.inl v103))

/--  lineal code.run .all -/
noncomputable def C85b (A : Ar) (x1 x2 : List D) (x3 x4 x5 x6 x7 x8 x9 x10 x11 x12 x13 x14 x15 x16 x17 x18 x19 x20 x21 : Int) (x22 x23 : List D) (x24 : Int) (x25 x26 : List D) : Option (Bool × Int) :=
 (C56a A x1 x2 x3 x4 x5 x6 x7 x8 x9 x10 x11 x12 x13 x14 x15 x16 x17 x18 x19 x20 x25 x26).bind fun r28 =>
 ((
  bif (A.zeq (A.len r28) 0) then
   some true
  else
   some (A.zeq x20 x21) : Option (Bool))).bind fun v30 =>
 bif v30 then
  (C90 A x1 x2 x3 x4 x5 x6 x7 x8 x9 x10 x11 x12 x13 x14 x15 x16 x17 x18 x19 x20 x25 x26 x23 x24).bind fun r34 =>
  some (true, r34)
 else
  (iter (C85bL0 A x1 x2 x3 x4 x5 x6 x7 x8 x9 x10 x11 x12 x13 x14 x15 x16 x17 x18 x19 x20 x21 x22 x23 x25 x26 r28) (0, x24)).bind (Sum.elim (fun v171 =>
   some (true, v171)) (fun (v172, v173, v174, v175, v176, v177, v178, v179, v180, v181, v182, v183, v184, v185, v186, v187, v188, v189, v190, v191, v192, v193, v194) =>
   some (false, v172)))

/-- lineal code.Schedules -/
noncomputable def C36 (A : Ar) (x1 x2 : List D) (x3 : Int) : Option (Int × Int) :=
 (C89 A x1 x2).bind fun r5 =>
 bif (A.zeq r5 0) then
  (C84 A x3).bind fun r8 =>
  bif r8 then
   (C69 A x1 x2).bind fun (r11, r12) =>
   (C85b A r11 r12 0 0 0 0 0 0 0 0 0 0 0 0 0 0 0 0 0 0 x3 [] [] 0 [] []).bind fun (r14, r15) =>
   some (r15, 0)
  else
   some (0, 2)
 else
  some (0, r5)

/-- lineal lineallaw08.CodeTurns -/
noncomputable def C8 (A : Ar) (x1 x2 : Int) (x3 x4 x5 x6 : List D) (x7 x8 x9 : Int) : Option (Bool) :=
 (C23 A x1 x2 x3 x4 x5 x6).bind fun r11 =>
 bif r11 then
  (nk (A.zeq 12 0)).bind fun _ =>
  (nk (A.zeq 3 0)).bind fun _ =>
  (nk (A.zeq 3 0)).bind fun _ =>
  (C29 A x5 (A.rem (A.wrp .i64 x7) 3) (A.rem (A.wrp .i64 x8) 3)).bind fun (r22, r23) =>
  (nk (A.zeq 3 0)).bind fun _ =>
  (nk (A.zeq 3 0)).bind fun _ =>
  (C29 A r22 (A.rem (A.wrp .i64 x7) 3) (A.rem (A.wrp .i64 x8) 3)).bind fun (r29, r30) =>
  (C38 A x5 x6 (A.rem (A.wrp .i64 x9) 12)).bind fun (r32, r33) =>
  (C38 A r22 x6 (A.rem (A.wrp .i64 x9) 12)).bind fun (r35, r36) =>
  ((
   bif (A.zeq r23 0) then
    bif (A.zeq r30 0) then
     bif (A.zeq r33 0) then
      bif (A.zeq r36 0) then
       (C31 A r29 x5).bind fun r42 =>
       bif r42 then
        (C40 A r32 r35).bind fun r45 =>
        some (!r45)
       else
        some true
      else
       some true
     else
      some true
    else
     some true
   else
    some true : Option (Bool))).bind fun v46 =>
  bif v46 then
   some false
  else
   (C36 A x5 x6 (A.rem (A.wrp .i64 x9) 12)).bind fun (r50, r51) =>
   (C36 A x5 x6 (A.wrp .i64 (A.zadd (A.rem (A.wrp .i64 x9) 12) 1))).bind fun (r53, r54) =>
   ((
    bif (A.zeq r51 0) then
     bif (A.zeq r54 0) then
      bif (A.zle 1 r50) then
       bif (A.zle r50 r53) then
        bif (A.zle (A.len r32) r50) then
         bif (A.zle 1 (A.len r32)) then
          (C10 A).bind fun r62 =>
          some r62
         else
          some false
        else
         some false
       else
        some false
      else
       some false
     else
      some false
    else
     some false : Option (Bool))).bind fun v63 =>
   some v63
 else
  (C10 A).bind fun r14 =>
  some r14
end Go.Am
