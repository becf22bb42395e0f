/- Own text: Genp0. -/
import Derived.Test.YtalfdjihejohoaaE1H
set_option maxRecDepth 100000
set_option maxHeartbeats 2000000
set_option linter.unusedVariables false
set_option linter.unusedSimpArgs false
namespace Go.Am
open Go
noncomputable def E62L0 (A : Ar) (v22 : Int) (a24 : List D) : (List D × Int) → Option ((List D × Int) ⊕ (List D)) := fun (v33, v34) =>
  bif (A.zlt v34 (A.len a24)) then
    (ap A v33 [(.agg [(.int .i64 v22), (.int .i64 v34)])]).bind fun l36 =>
    some (.inl (l36, (A.wrp .i64 (A.zadd v34 1))))
  else
    some (.inr v33)

noncomputable def E62L1 (A : Ar) (x1 : List D) : (List D × Int) → Option ((List D × Int) ⊕ (List D)) := fun (v21, v22) =>
  bif (A.zlt v22 (A.len x1)) then
    (gt A (cL 2) x1 v22).bind fun a24 =>
    (iter (E62L0 A v22 a24) (v21, 0)).bind (fun v40 =>
    some (.inl (v40, (A.wrp .i64 (A.zadd v22 1)))))
  else
    some (.inr v21)

/--  lineal delay.threads .spots -/
noncomputable def E62 (A : Ar) (x1 : List D) : Option (List D) :=
  (iter (E62L1 A x1) ([], 0)).bind (fun v42 =>
  some v42)

noncomputable def E44L0 (A : Ar) (r4 : List D) (v84 : Int) (a86 : List D) : (Int × List D × Int) → Option ((Int × List D × Int) ⊕ (Int × List D)) := fun (v116, v117, v118) =>
  bif (A.zlt v118 (A.len a86)) then
    (gt A (cG (lc (cI .i64) (l1 cB))) a86 v118).bind fun (a120, a121) =>
    (
      bif a121 then
        (nk (A.zeq 3 0)).bind fun _ =>
        some ((A.wrp .i64 (A.zadd v116 1)), 2, (A.wrp .i64 (A.zadd (A.rem v116 3) 1)))
      else
        some (v116, 1, 0)).bind fun (v128, v129, v130) =>
    (ap A v117 [(.agg [(.int .i64 v129), (.int .i64 a120), (.int .i64 v130)])]).bind fun l132 =>
    (E96 A r4 v84 v118).bind fun r137 =>
    (
      bif r137 then
        (ap A l132 [(.agg [(.int .i64 3), (.int .i64 0), (.int .i64 0)])]).bind fun l139 =>
        some l139
      else
        some l132).bind fun v143 =>
    some (.inl (v128, v143, (A.wrp .i64 (A.zadd v118 1))))
  else
    some (.inr (v116, v117))

noncomputable def E44L1 (A : Ar) (x1 : List D) (r4 : List D) : (Int × List D × Int) → Option ((Int × List D × Int) ⊕ (List D)) := fun (v82, v83, v84) =>
  bif (A.zlt v84 (A.len x1)) then
    (gt A (cL 2) x1 v84).bind fun a86 =>
    (iter (E44L0 A r4 v84 a86) (v82, [], 0)).bind (fun (v145, v146) =>
    (ap A v83 [(.list 3 v146)]).bind fun l148 =>
    some (.inl (v145, l148, (A.wrp .i64 (A.zadd v84 1)))))
  else
    some (.inr v83)

/-- lineal delay.Program -/
noncomputable def E44 (A : Ar) (x1 : List D) (x2 : List D) : Option (List D × Int) :=
  (E85 A x1 x2).bind fun (r4, r5) =>
  (
    bif (A.zeq r5 0) then
      (E62 A x1).bind fun r8 =>
      some (A.zlt 8 (A.len r8))
    else
      some false).bind fun v9 =>
  (
    bif v9 then
      some 2
    else
      some r5).bind fun v12 =>
  bif (A.zeq v12 0) then
    (iter (E44L1 A x1 r4) (0, [], 0)).bind (fun v152 =>
    some (v152, 0))
  else
    some ([], v12)

noncomputable def E45L0 (A : Ar) (x2 : List D) (v120 : Int) (v176 : Int) : (List D × Int) → Option ((List D × Int) ⊕ (List D)) := fun (v207, v208) =>
  bif (A.zlt v208 (A.len x2)) then
    (gt A (cG (lc (cI .i64) (l1 (cI .i64)))) x2 v208).bind fun (a210, a211) =>
    (
      bif (A.deq [(.int .i64 a210), (.int .i64 a211)] [(.int .i64 v120), (.int .i64 v176)]) then
        (ap A v207 [(.agg [(.int .i64 3), (.int .i64 0), (.int .i64 0)])]).bind fun l216 =>
        some l216
      else
        some v207).bind fun v220 =>
    some (.inl (v220, (A.wrp .i64 (A.zadd v208 1))))
  else
    some (.inr v207)

noncomputable def E45L1 (A : Ar) (x2 : List D) (v120 : Int) (a122 : List D) : (Int × Int × List D × Int) → Option ((Int × Int × List D × Int) ⊕ (Int × Int × List D)) := fun (v173, v174, v175, v176) =>
  bif (A.zlt v176 (A.len a122)) then
    (gt A (cG (lc (cI .i64) (l1 cB))) a122 v176).bind fun (a178, a179) =>
    (
      bif a179 then
        (nk (A.zeq 3 0)).bind fun _ =>
        some ((A.wrp .i64 (A.zadd v174 1)), 2, (A.wrp .i64 (A.zadd 1 (A.rem v174 3))))
      else
        some (v174, 1, 0)).bind fun (v186, v187, v188) =>
    (ap A v175 [(.agg [(.int .i64 v187), (.int .i64 a178), (.int .i64 v188)])]).bind fun l190 =>
    (iter (E45L0 A x2 v120 v176) (l190, 0)).bind (fun v222 =>
    some (.inl ((A.wrp .i64 (A.zadd v173 1)), v186, v222, (A.wrp .i64 (A.zadd v176 1)))))
  else
    some (.inr (v173, v174, v175))

noncomputable def E45L2 (A : Ar) (x1 : List D) (x2 : List D) : (List D × Int × Int × Int) → Option ((List D × Int × Int × Int) ⊕ (List D × Int)) := fun (v117, v118, v119, v120) =>
  bif (A.zlt v120 (A.len x1)) then
    (gt A (cL 2) x1 v120).bind fun a122 =>
    (iter (E45L1 A x2 v120 a122) (v118, v119, [], 0)).bind (fun (v224, v225, v226) =>
    (ap A v117 [(.list 3 v226)]).bind fun l228 =>
    some (.inl (l228, v224, v225, (A.wrp .i64 (A.zadd v120 1)))))
  else
    some (.inr (v117, v118))

/-- lineal linealref09.Program -/
noncomputable def E45 (A : Ar) (x1 : List D) (x2 : List D) : Option (List D × Int) :=
  (E89 A x1 x2).bind fun r4 =>
  bif (A.zeq r4 0) then
    (iter (E45L2 A x1 x2) ([], 0, 0, 0)).bind (fun (v232, v233) =>
    bif (A.zlt 8 v233) then
      some ([], 2)
    else
      some (v232, 0))
  else
    some ([], r4)

noncomputable def E46L0 (A : Ar) (a46 : List D) (a50 : List D) : Int → Option ((Int) ⊕ ((Unit) ⊕ (Unit))) := fun v69 =>
  bif (A.zlt v69 (A.len a46)) then
    (gt A (cG (lc (cI .i64) (lc (cI .i64) (l1 (cI .i64))))) a46 v69).bind fun (a71, a72, a73) =>
    (gt A (cG (lc (cI .i64) (lc (cI .i64) (l1 (cI .i64))))) a50 v69).bind fun (a77, a78, a79) =>
    bif (A.deq [(.int .i64 a71), (.int .i64 a72), (.int .i64 a73)] [(.int .i64 a77), (.int .i64 a78), (.int .i64 a79)]) then
      some (.inl (A.wrp .i64 (A.zadd v69 1)))
    else
      some (.inr (.inr ()))
  else
    some (.inr (.inl ()))

noncomputable def E46L1 (A : Ar) (x1 : List D) (x2 : List D) : Int → Option ((Int) ⊕ ((Unit) ⊕ (Unit))) := fun v44 =>
  bif (A.zlt v44 (A.len x1)) then
    (gt A (cL 3) x1 v44).bind fun a46 =>
    (gt A (cL 3) x2 v44).bind fun a50 =>
    bif (A.zeq (A.len a46) (A.len a50)) then
      (iter (E46L0 A a46 a50) 0).bind (Sum.elim (fun _ =>
        some (.inl (A.wrp .i64 (A.zadd v44 1)))) (fun _ =>
        some (.inr (.inr ()))))
    else
      some (.inr (.inr ()))
  else
    some (.inr (.inl ()))

/-- lineal linealref09.SameActs -/
noncomputable def E46 (A : Ar) (x1 : List D) (x2 : List D) : Option (Bool) :=
  bif (A.zeq (A.len x1) (A.len x2)) then
    (iter (E46L1 A x1 x2) 0).bind (Sum.elim (fun _ =>
      some true) (fun _ =>
      some false))
  else
    some false

noncomputable def E47L0 (A : Ar) (a41 : List D) : (List D × Int) → Option ((List D × Int) ⊕ (List D)) := fun (v55, v56) =>
  bif (A.zle 0 v56) then
    (gt A (cG (lc (cI .i64) (l1 cB))) a41 v56).bind fun (a58, a59) =>
    (ap A v55 [(.agg [(.int .i64 a58), (.bool a59)])]).bind fun l63 =>
    some (.inl (l63, (A.wrp .i64 (A.zsub v56 1))))
  else
    some (.inr v55)

noncomputable def E47L1 (A : Ar) (x1 : List D) : (List D × Int) → Option ((List D × Int) ⊕ (List D)) := fun (v38, v39) =>
  bif (A.zlt v39 (A.len x1)) then
    (gt A (cL 2) x1 v39).bind fun a41 =>
    (iter (E47L0 A a41) ([], (A.wrp .i64 (A.zsub (A.len a41) 1)))).bind (fun v67 =>
    (ap A v38 [(.list 2 v67)]).bind fun l69 =>
    some (.inl (l69, (A.wrp .i64 (A.zadd v39 1)))))
  else
    some (.inr v38)

/-- lineal linealref09.Turned -/
noncomputable def E47 (A : Ar) (x1 : List D) : Option (List D × Int) :=
  (E14 A x1).bind fun r3 =>
  bif r3 then
    (iter (E47L1 A x1) ([], 0)).bind (fun v73 =>
    some (v73, 0))
  else
    some ([], 90)

noncomputable def E49L0 (A : Ar) (x1 : List D) (x2 : List D) : (List D × Int) → Option ((List D × Int) ⊕ (List D)) := fun (v26, v27) =>
  bif (A.zlt v27 (A.len x2)) then
    (gt A (cI .i64) x2 v27).bind fun a29 =>
    (gt A (cL 2) x1 a29).bind fun a33 =>
    (ap A [] a33).bind fun l37 =>
    (ap A v26 [(.list 2 l37)]).bind fun l41 =>
    some (.inl (l41, (A.wrp .i64 (A.zadd v27 1))))
  else
    some (.inr v26)

/-- lineal linealref09.Renamed -/
noncomputable def E49 (A : Ar) (x1 : List D) (x2 : List D) : Option (List D × Int) :=
  (E14 A x1).bind fun r4 =>
  bif r4 then
    (E51 A (A.len x1) x2).bind fun r7 =>
    bif r7 then
      (iter (E49L0 A x1 x2) ([], 0)).bind (fun v45 =>
      some (v45, 0))
    else
      some ([], 2)
  else
    some ([], 90)

/-- lineal lineallaw09.DelayPrograms -/
noncomputable def E9 (A : Ar) (x1 : List D) (x2 : List D) (x3 : List D) : Option (Bool) :=
  (
    (E13 A x1).bind fun r5 =>
    bif r5 then
      some true
    else
      bif (A.zlt 40 (A.len x2)) then
        some true
      else
        some (A.zlt 40 (A.len x3))).bind fun v8 =>
  bif v8 then
    (E15 A).bind fun r12 =>
    some r12
  else
    (E44 A x1 x2).bind fun (r14, r15) =>
    (E45 A x1 x2).bind fun (r17, r18) =>
    (
      (E46 A r14 r17).bind fun r20 =>
      bif r20 then
        some (!(A.zeq r15 r18))
      else
        some true).bind fun v22 =>
    bif v22 then
      some false
    else
      (E25 A x1).bind fun (r26, r27) =>
      (E47 A x1).bind fun (r29, r30) =>
      (
        (E26 A r26 r29).bind fun r32 =>
        bif r32 then
          some (!(A.zeq r27 r30))
        else
          some true).bind fun v34 =>
      bif v34 then
        some false
      else
        (E48 A x1 x3).bind fun (r38, r39) =>
        (E49 A x1 x3).bind fun (r41, r42) =>
        (
          (E26 A r38 r41).bind fun r44 =>
          bif r44 then
            bif (A.zeq r39 r42) then
              (E15 A).bind fun r48 =>
              some r48
            else
              some false
          else
            some false).bind fun v49 =>
        some v49
end Go.Am
