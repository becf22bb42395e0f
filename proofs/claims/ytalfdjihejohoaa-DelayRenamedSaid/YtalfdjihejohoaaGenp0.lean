/- Own text: Genp0. -/
import Derived.Test.YtalfdjihejohoaaE1H
set_option maxRecDepth 100000
set_option maxHeartbeats 2000000
set_option linter.unusedVariables false
set_option linter.unusedSimpArgs false
namespace Go.Am
open Go
/-- cmp.isNaN int  -/
noncomputable def E134 (A : Ar) (x1 : Int) : Option (Bool) :=
  some (!(A.zeq x1 x1))

/-- cmp.Compare int  -/
noncomputable def E109 (A : Ar) (x1 : Int) (x2 : Int) : Option (Int) :=
  (E134 A x1).bind fun r4 =>
  (E134 A x2).bind fun r6 =>
  bif r4 then
    bif r6 then
      some 0
    else
      some (-1)
  else
    bif r6 then
      some 1
    else
      bif (A.zlt x1 x2) then
        some (-1)
      else
        bif (A.zlt x2 x1) then
          some 1
        else
          some 0

noncomputable def E50L0 (A : Ar) (a36 : List D) : Int → Option ((Int) ⊕ ((Unit) ⊕ (Unit))) := fun v54 =>
  bif (A.zlt v54 (A.len a36)) then
    (gt A (cI .i64) a36 v54).bind fun a56 =>
    (
      bif (A.zlt a56 1) then
        some true
      else
        some (A.zlt 9 a56)).bind fun v61 =>
    bif v61 then
      some (.inr (.inr ()))
    else
      some (.inl (A.wrp .i64 (A.zadd v54 1)))
  else
    some (.inr (.inl ()))

noncomputable def E50L1 (A : Ar) (x1 : List D) (x2 : List D) : Int → Option ((Int) ⊕ ((Unit) ⊕ (Unit))) := fun v34 =>
  bif (A.zlt v34 (A.len x2)) then
    (gt A (cL 1) x2 v34).bind fun a36 =>
    (gt A (cL 2) x1 v34).bind fun a40 =>
    bif (A.zeq (A.len a36) (A.zmax (A.wrp .i64 (A.zsub (A.len a40) 1)) 0)) then
      (iter (E50L0 A a36) 0).bind (Sum.elim (fun _ =>
        some (.inl (A.wrp .i64 (A.zadd v34 1)))) (fun _ =>
        some (.inr (.inr ()))))
    else
      some (.inr (.inr ()))
  else
    some (.inr (.inl ()))

/-- lineal linealref09.AreCosts -/
noncomputable def E50 (A : Ar) (x1 : List D) (x2 : List D) : Option (Bool) :=
  bif (A.zeq (A.len x2) (A.len x1)) then
    (iter (E50L1 A x1 x2) 0).bind (Sum.elim (fun _ =>
      some true) (fun _ =>
      some false))
  else
    some false

/-- lineal delay.asked -/
noncomputable def E98 (A : Ar) (x1 : List D) (x2 : List D) : Option (Int) :=
  (E20 A x1).bind fun r4 =>
  bif r4 then
    (E93 A x1 x2).bind fun r7 =>
    bif r7 then
      some 0
    else
      some 2
  else
    some 90

noncomputable def E139L0 (A : Ar) (x1 : List D) : Int → Option ((Int) ⊕ ((Unit) ⊕ (Int))) := fun v8 =>
  bif (A.zlt v8 (A.len x1)) then
    (gt A (cI .i64) x1 v8).bind fun a10 =>
    bif (A.zeq a10 0) then
      some (.inl (A.wrp .i64 (A.zadd v8 1)))
    else
      some (.inr (.inr a10))
  else
    some (.inr (.inl ()))

/-- cmp.Or int  -/
noncomputable def E139 (A : Ar) (x1 : List D) : Option (Int) :=
  (iter (E139L0 A x1) 0).bind (Sum.elim (fun _ =>
    some 0) (fun v15 =>
    some v15))

/-- lineal delay.compare$1 -/
noncomputable def E138 (A : Ar) (x1 : Int) (x2 : Int) (x3 : Int) (x4 : Int) : Option (Int) :=
  (E109 A x1 x3).bind fun r6 =>
  (E109 A x2 x4).bind fun r8 =>
  (E139 A [(.int .i64 r6), (.int .i64 r8)]).bind fun r10 =>
  some r10

noncomputable def E137L0 (A : Ar) (x1 : List D) (x2 : List D) : Int → Option ((Int) ⊕ ((Unit) ⊕ (Int))) := fun v18 =>
  bif (A.zlt v18 (A.len x1)) then
    (gt A (cG (lc (cI .i64) (l1 (cI .i64)))) x1 v18).bind fun (a20, a21) =>
    bif (A.zle (A.len x2) v18) then
      some (.inr (.inr 1))
    else
      (gt A (cG (lc (cI .i64) (l1 (cI .i64)))) x2 v18).bind fun (a26, a27) =>
      (E138 A a20 a21 a26 a27).bind fun r32 =>
      bif (A.zeq r32 0) then
        some (.inl (A.wrp .i64 (A.zadd v18 1)))
      else
        some (.inr (.inr r32))
  else
    some (.inr (.inl ()))

/-- slices.CompareFunc   lineal delay.fence   lineal delay.fence lineal delay.fence lineal delay.fence  -/
noncomputable def E137 (A : Ar) (x1 : List D) (x2 : List D) : Option (Int) :=
  (iter (E137L0 A x1 x2) 0).bind (Sum.elim (fun _ =>
    bif (A.zlt (A.len x1) (A.len x2)) then
      some (-1)
    else
      some 0) (fun v34 =>
    some v34))

/-- lineal delay.compare -/
noncomputable def E130 (A : Ar) (x1 : List D) (x2 : List D) : Option (Int) :=
  (E137 A x1 x2).bind fun r4 =>
  some r4

noncomputable def E99L0 (A : Ar) (r5 : List D) (v55 : Int) : (List D × Int) → Option ((List D × Int) ⊕ (List D)) := fun (v72, v73) =>
  bif (A.zlt v73 (A.len r5)) then
    (gt A (cG (lc (cI .i64) (l1 (cI .i64)))) r5 v73).bind fun (a75, a76) =>
    (nk (A.zlt v73 0)).bind fun _ =>
    (
      bif (A.zeq (A.bits .and .i64 (A.shr .i64 v55 v73) 1) 1) then
        (ap A v72 [(.agg [(.int .i64 a75), (.int .i64 a76)])]).bind fun l83 =>
        some l83
      else
        some v72).bind fun v87 =>
    some (.inl (v87, (A.wrp .i64 (A.zadd v73 1))))
  else
    some (.inr v72)

noncomputable def E99L1 (A : Ar) (x2 : List D) (x3 : List D) (r5 : List D) : (List D × Int × Bool × Int) → Option ((List D × Int × Bool × Int) ⊕ (List D)) := fun (v52, v53, v54, v55) =>
  bif (A.zlt v55 (A.shl .i64 1 (A.len r5))) then
    (
      (iter (E99L0 A r5 v55) ([], 0)).bind (fun v89 =>
      (E91 A v89 x3).bind fun r92 =>
      bif r92 then
        (E94 A x2 v89).bind fun r95 =>
        (
          bif v54 then
            bif (A.zlt r95 v53) then
              some (true, true)
            else
              bif (A.zeq r95 v53) then
                (E130 A v89 v52).bind fun r100 =>
                some (true, (A.zlt r100 0))
              else
                some (true, false)
          else
            some (false, true)).bind fun (v101, v102) =>
        (
          bif v102 then
            some (v89, r95, true)
          else
            some (v52, v53, v101)).bind fun (v105, v106, v107) =>
        some (v105, v106, v107)
      else
        some (v52, v53, v54))).bind fun (v109, v110, v111) =>
    some (.inl (v109, v110, v111, (A.wrp .i64 (A.zadd v55 1))))
  else
    some (.inr v52)

/--  lineal delay.threads .cheapest -/
noncomputable def E99 (A : Ar) (x1 : List D) (x2 : List D) (x3 : List D) : Option (List D) :=
  (E104 A x1).bind fun r5 =>
  (nk (A.zlt (A.len r5) 0)).bind fun _ =>
  (iter (E99L1 A x2 x3 r5) ([], 0, false, 0)).bind (fun v113 =>
  some v113)

/-- lineal delay.Least -/
noncomputable def E52 (A : Ar) (x1 : List D) (x2 : List D) : Option (Int × Int) :=
  (E98 A x1 x2).bind fun r4 =>
  bif (A.zeq r4 0) then
    (E77 A x1).bind fun r7 =>
    (E99 A x1 x2 r7).bind fun r9 =>
    (E94 A x2 r9).bind fun r11 =>
    some (r11, 0)
  else
    some (0, r4)

noncomputable def E10L0 (A : Ar) (x2 : List D) (x3 : List D) : (List D × Int) → Option ((List D × Int) ⊕ (List D)) := fun (v36, v37) =>
  bif (A.zlt v37 (A.len x3)) then
    (gt A (cI .i64) x3 v37).bind fun a39 =>
    (gt A (cL 1) x2 a39).bind fun a43 =>
    (ap A v36 [(.list 1 a43)]).bind fun l47 =>
    some (.inl (l47, (A.wrp .i64 (A.zadd v37 1))))
  else
    some (.inr v36)

/-- lineal lineallaw09.DelayRenamed -/
noncomputable def E10 (A : Ar) (x1 : List D) (x2 : List D) (x3 : List D) : Option (Bool) :=
  (
    (E13 A x1).bind fun r5 =>
    bif r5 then
      some true
    else
      (E14 A x1).bind fun r8 =>
      bif r8 then
        (E50 A x1 x2).bind fun r11 =>
        bif r11 then
          (E51 A (A.len x1) x3).bind fun r14 =>
          some (!r14)
        else
          some true
      else
        some true).bind fun v15 =>
  bif v15 then
    (E15 A).bind fun r19 =>
    some r19
  else
    (E48 A x1 x3).bind fun (r21, r22) =>
    (iter (E10L0 A x2 x3) ([], 0)).bind (fun v51 =>
    (E16 A x1).bind fun (r54, r55) =>
    (E16 A r21).bind fun (r57, r58) =>
    (E52 A x1 x2).bind fun (r60, r61) =>
    (E52 A r21 v51).bind fun (r63, r64) =>
    (
      bif (A.zeq r22 0) then
        bif (A.zeq r55 0) then
          bif (A.zeq r58 0) then
            bif (A.zeq r61 0) then
              bif (A.zeq r64 0) then
                bif (A.zeq r54 r57) then
                  bif (A.zeq r60 r63) then
                    (E15 A).bind fun r73 =>
                    some r73
                  else
                    some false
                else
                  some false
              else
                some false
            else
              some false
          else
            some false
        else
          some false
      else
        some false).bind fun v74 =>
    some v74)
end Go.Am
