/- Own text: Genp0. -/
import Derived.Test.YtcnplegmmmobcaaAmSrt
set_option maxRecDepth 100000
set_option maxHeartbeats 2000000
set_option linter.unusedVariables false
set_option linter.unusedSimpArgs false
namespace Go.Am
open Go
/-- lineal lineallaw05.Long -/
noncomputable def R16 (A : Ar) (x1 : Int) (x2 : List D) : Option (Bool) :=
  some (A.zlt 100 (A.len x2))

/-- lineal refine.between -/
noncomputable def R65 (A : Ar) (x1 : Int) (x2 : Int) (x3 : Int) : Option (Bool) :=
  (
    bif (A.zle x1 x2) then
      some (A.zle x2 x3)
    else
      some false).bind fun v5 =>
  some v5

/-- lineal refine.Valid$1 -/
noncomputable def R79 (A : Ar) (x1 : Int) (x2 : Int) (x3 : List D) : Option (Bool) :=
  (R65 A 0 x1 (A.wrp .i64 (A.zsub x2 1))).bind fun r5 =>
  some r5

noncomputable def R33L0 (A : Ar) (x1 : Int) (x2 : List D) : (Int × List (D × D)) → Option ((Int × List (D × D)) ⊕ ((List (D × D)) ⊕ (List (D × D)))) := fun (v26, v27) =>
  bif (A.zlt v26 (A.len x2)) then
    (gt A (cG (lc (cI .i64) (lc (cI .i64) (l1 (cI .i64))))) x2 v26).bind fun (a29, a30, a31) =>
    (
      (R79 A a29 x1 x2).bind fun r36 =>
      bif r36 then
        (R79 A a31 x1 x2).bind fun r39 =>
        bif r39 then
          (R65 A 0 a30 3).bind fun r42 =>
          bif r42 then
            (lk A cB v27 (.agg [(.int .i64 a29), (.int .i64 a30), (.int .i64 a31)])).bind fun o47 => o47.elim (
              some false) fun a44 =>
            some a44
          else
            some true
        else
          some true
      else
        some true).bind fun v48 =>
    bif v48 then
      some (.inr (.inr v27))
    else
      some (.inl ((A.wrp .i64 (A.zadd v26 1)), (A.mput v27 (.agg [(.int .i64 a29), (.int .i64 a30), (.int .i64 a31)]) (.bool true))))
  else
    some (.inr (.inl v27))

/-- lineal refine.Valid -/
noncomputable def R33 (A : Ar) (x1 : Int) (x2 : List D) : Option (Bool) :=
  (iter (R33L0 A x1 x2) (0, [])).bind (Sum.elim (fun v51 =>
    (
      (R65 A 1 x1 6).bind fun r55 =>
      bif r55 then
        some (A.zle (A.len x2) 24)
      else
        some false).bind fun v57 =>
    some v57) (fun v52 =>
    some false))

noncomputable def R76L0 (A : Ar) : (Int × List D) → Option ((Int × List D) ⊕ (List D)) := fun (v9, v10) =>
  bif (A.zeq v9 0) then
    some (.inr v10)
  else
    (tz8 A v9).bind fun r13 =>
    (ap A v10 [(.int .i64 r13)]).bind fun l14 =>
    some (.inl ((A.bits .and .u8 v9 (A.wrp .u8 (A.zsub v9 1))), l14))

/--  lineal refine.set .list -/
noncomputable def R76 (A : Ar) (x1 : Int) : Option (List D) :=
  (iter (R76L0 A) (x1, [])).bind (fun v18 =>
  some v18)

noncomputable def R68L0 (A : Ar) (x1 : Int) (x3 : List D) (r5 : List D) : (Int × Int) → Option ((Int × Int) ⊕ (Int)) := fun (v22, v23) =>
  bif (A.zlt v23 (A.len r5)) then
    (gt A (cI .i64) r5 v23).bind fun a25 =>
    (ck (A.zle 0 x1)).bind fun _ =>
    (ck (A.zlt x1 (Int.ofNat 4))).bind fun _ =>
    (ck (A.zle 0 a25)).bind fun _ =>
    (ck (A.zlt a25 (Int.ofNat 6))).bind fun _ =>
    (gc A (cI .u8) x3 (A.nat (A.zadd (A.zadd (A.zadd 0 (A.zmul x1 (Int.ofNat 6))) (A.zmul a25 (Int.ofNat 1))) (Int.ofNat 2)))).bind fun a37 =>
    some (.inl ((A.bits .or .u8 v22 a37), (A.wrp .i64 (A.zadd v23 1))))
  else
    some (.inr v22)

/--  *lineal refine.table .all -/
noncomputable def R68 (A : Ar) (x1 : Int) (x2 : Int) (x3 : List D) : Option (Int) :=
  (R76 A x2).bind fun r5 =>
  (iter (R68L0 A x1 x3 r5) (0, 0)).bind (fun v40 =>
  some v40)

noncomputable def R68aL0 (A : Ar) (x1 : Int) (x3 : List D) (r5 : List D) : (Int × Int) → Option ((Int × Int) ⊕ (Int)) := fun (v22, v23) =>
  bif (A.zlt v23 (A.len r5)) then
    (gt A (cI .i64) r5 v23).bind fun a25 =>
    (ck (A.zle 0 x1)).bind fun _ =>
    (ck (A.zlt x1 (Int.ofNat 4))).bind fun _ =>
    (ck (A.zle 0 a25)).bind fun _ =>
    (ck (A.zlt a25 (Int.ofNat 6))).bind fun _ =>
    (gc A (cI .u8) x3 (A.nat (A.zadd (A.zadd (A.zadd 0 (A.zmul x1 (Int.ofNat 6))) (A.zmul a25 (Int.ofNat 1))) (Int.ofNat 26)))).bind fun a37 =>
    some (.inl ((A.bits .or .u8 v22 a37), (A.wrp .i64 (A.zadd v23 1))))
  else
    some (.inr v22)

/--  *lineal refine.table .all -/
noncomputable def R68a (A : Ar) (x1 : Int) (x2 : Int) (x3 : List D) : Option (Int) :=
  (R76 A x2).bind fun r5 =>
  (iter (R68aL0 A x1 x3 r5) (0, 0)).bind (fun v40 =>
  some v40)

noncomputable def R58L0 (A : Ar) (x2 : List D) : (Int × List D) → Option ((Int × List D) ⊕ (List D)) := fun (v37, v38) =>
  bif (A.zlt v37 (A.len x2)) then
    (gt A (cG (lc (cI .i64) (lc (cI .i64) (l1 (cI .i64))))) x2 v37).bind fun (a40, a41, a42) =>
    (ck (A.zle 0 a41)).bind fun _ =>
    (ck (A.zlt a41 (Int.ofNat 4))).bind fun _ =>
    (ck (A.zle 0 a40)).bind fun _ =>
    (ck (A.zlt a40 (Int.ofNat 6))).bind fun _ =>
    (gc A (cI .u8) v38 (A.nat (A.zadd (A.zadd (A.zadd 0 (A.zmul a41 (Int.ofNat 6))) (A.zmul a40 (Int.ofNat 1))) (Int.ofNat 2)))).bind fun a54 =>
    (nk (A.zlt a42 0)).bind fun _ =>
    (ck (A.zle 0 a41)).bind fun _ =>
    (ck (A.zlt a41 (Int.ofNat 4))).bind fun _ =>
    (ck (A.zle 0 a40)).bind fun _ =>
    (ck (A.zlt a40 (Int.ofNat 6))).bind fun _ =>
    (A.lget v38 (A.nat (A.zadd (A.zadd (A.zadd 0 (A.zmul a41 (Int.ofNat 6))) (A.zmul a40 (Int.ofNat 1))) (Int.ofNat 2)))).bind fun d67 =>
    some (.inl ((A.wrp .i64 (A.zadd v37 1)), (A.lset v38 (A.nat (A.zadd (A.zadd (A.zadd 0 (A.zmul a41 (Int.ofNat 6))) (A.zmul a40 (Int.ofNat 1))) (Int.ofNat 2))) (.int .u8 (A.bits .or .u8 a54 (A.shl .u8 1 a42))))))
  else
    some (.inr v38)

noncomputable def R58L1 (A : Ar) (v93 : List D) : (Int × Int) → Option ((Int × Int) ⊕ (Int)) := fun (v102, v103) =>
  bif (A.zeq v103 v102) then
    some (.inr v102)
  else
    (R68 A 0 v103 v93).bind fun r106 =>
    some (.inl (v103, (A.bits .or .u8 v103 r106)))

noncomputable def R58L2 (A : Ar) (x1 : Int) : (Int × List D) → Option ((Int × List D) ⊕ (List D)) := fun (v92, v93) =>
  bif (A.zlt v92 x1) then
    (nk (A.zlt v92 0)).bind fun _ =>
    (R68 A 0 (A.shl .u8 1 v92) v93).bind fun r98 =>
    (iter (R58L1 A v93) ((A.shl .u8 1 v92), (A.bits .or .u8 (A.shl .u8 1 v92) r98))).bind (fun v107 =>
    (ck (A.zle 0 v92)).bind fun _ =>
    (ck (A.zlt v92 (Int.ofNat 6))).bind fun _ =>
    (A.lget v93 (A.nat (A.zadd (A.zadd 0 (A.zmul v92 (Int.ofNat 1))) (Int.ofNat 26)))).bind fun d113 =>
    some (.inl ((A.wrp .i64 (A.zadd v92 1)), (A.lset v93 (A.nat (A.zadd (A.zadd 0 (A.zmul v92 (Int.ofNat 1))) (Int.ofNat 26))) (.int .u8 v107)))))
  else
    some (.inr v93)

noncomputable def R58L3 (A : Ar) (x1 : Int) (v166 : Int) : (Int × List D) → Option ((Int × List D) ⊕ (List D)) := fun (v191, v192) =>
  bif (A.zlt v191 x1) then
    (ck (A.zle 0 v191)).bind fun _ =>
    (ck (A.zlt v191 (Int.ofNat 6))).bind fun _ =>
    (gc A (cI .u8) v192 (A.nat (A.zadd (A.zadd 0 (A.zmul v191 (Int.ofNat 1))) (Int.ofNat 26)))).bind fun a198 =>
    (R68 A v166 a198 v192).bind fun r202 =>
    (R68a A 0 r202 v192).bind fun r204 =>
    (ck (A.zle 0 v166)).bind fun _ =>
    (ck (A.zlt v166 (Int.ofNat 4))).bind fun _ =>
    (ck (A.zle 0 v191)).bind fun _ =>
    (ck (A.zlt v191 (Int.ofNat 6))).bind fun _ =>
    (A.lget v192 (A.nat (A.zadd (A.zadd (A.zadd 0 (A.zmul v166 (Int.ofNat 6))) (A.zmul v191 (Int.ofNat 1))) (Int.ofNat 26)))).bind fun d213 =>
    some (.inl ((A.wrp .i64 (A.zadd v191 1)), (A.lset v192 (A.nat (A.zadd (A.zadd (A.zadd 0 (A.zmul v166 (Int.ofNat 6))) (A.zmul v191 (Int.ofNat 1))) (Int.ofNat 26))) (.int .u8 r204))))
  else
    some (.inr v192)

noncomputable def R58L4 (A : Ar) (x1 : Int) : (Int × List D) → Option ((Int × List D) ⊕ (List D)) := fun (v166, v167) =>
  bif (A.zle v166 3) then
    (iter (R58L3 A x1 v166) (0, v167)).bind (fun v215 =>
    some (.inl ((A.wrp .i64 (A.zadd v166 1)), v215)))
  else
    some (.inr v167)

/-- lineal refine.newFrame -/
noncomputable def R58 (A : Ar) (x1 : Int) (x2 : List D) : Option ((List D) ⊕ (Unit)) :=
  (R33 A x1 x2).bind fun r4 =>
  bif r4 then
    (iter (R58L0 A x2) (0, [(.int .i64 x1), (.list 3 x2), (.int .u8 0), (.int .u8 0), (.int .u8 0), (.int .u8 0), (.int .u8 0), (.int .u8 0), (.int .u8 0), (.int .u8 0), (.int .u8 0), (.int .u8 0), (.int .u8 0), (.int .u8 0), (.int .u8 0), (.int .u8 0), (.int .u8 0), (.int .u8 0), (.int .u8 0), (.int .u8 0), (.int .u8 0), (.int .u8 0), (.int .u8 0), (.int .u8 0), (.int .u8 0), (.int .u8 0), (.int .u8 0), (.int .u8 0), (.int .u8 0), (.int .u8 0), (.int .u8 0), (.int .u8 0), (.int .u8 0), (.int .u8 0), (.int .u8 0), (.int .u8 0), (.int .u8 0), (.int .u8 0), (.int .u8 0), (.int .u8 0), (.int .u8 0), (.int .u8 0), (.int .u8 0), (.int .u8 0), (.int .u8 0), (.int .u8 0), (.int .u8 0), (.int .u8 0), (.int .u8 0), (.int .u8 0)])).bind (fun v69 =>
    (iter (R58L2 A x1) (0, v69)).bind (fun v115 =>
    (iter (R58L4 A x1) (1, v115)).bind (fun v217 =>
    some (.inl v217))))
  else
    some (.inr ())

noncomputable def R68bL0 (A : Ar) (x1 : Int) (x4 : List D) (r6 : List D) : (Int × Int) → Option ((Int × Int) ⊕ (Int)) := fun (v23, v24) =>
  bif (A.zlt v24 (A.len r6)) then
    (gt A (cI .i64) r6 v24).bind fun a26 =>
    (ck (A.zle 0 x1)).bind fun _ =>
    (ck (A.zlt x1 (Int.ofNat 4))).bind fun _ =>
    (ck (A.zle 0 a26)).bind fun _ =>
    (ck (A.zlt a26 (Int.ofNat 6))).bind fun _ =>
    (gc A (cI .u8) x4 (A.nat (A.zadd (A.zadd (A.zadd 0 (A.zmul x1 (Int.ofNat 6))) (A.zmul a26 (Int.ofNat 1))) (Int.ofNat 2)))).bind fun a38 =>
    some (.inl ((A.bits .or .u8 v23 a38), (A.wrp .i64 (A.zadd v24 1))))
  else
    some (.inr v23)

/--  *lineal refine.table .all -/
noncomputable def R68b (A : Ar) (x1 : Int) (x2 : Int) (x3 : List D) (x4 : List D) : Option (Int) :=
  (R76 A x2).bind fun r6 =>
  (iter (R68bL0 A x1 x4 r6) (0, 0)).bind (fun v41 =>
  some v41)

noncomputable def R68cL0 (A : Ar) (x1 : Int) (x4 : List D) (r6 : List D) : (Int × Int) → Option ((Int × Int) ⊕ (Int)) := fun (v23, v24) =>
  bif (A.zlt v24 (A.len r6)) then
    (gt A (cI .i64) r6 v24).bind fun a26 =>
    (ck (A.zle 0 x1)).bind fun _ =>
    (ck (A.zlt x1 (Int.ofNat 4))).bind fun _ =>
    (ck (A.zle 0 a26)).bind fun _ =>
    (ck (A.zlt a26 (Int.ofNat 6))).bind fun _ =>
    (gc A (cI .u8) x4 (A.nat (A.zadd (A.zadd (A.zadd 0 (A.zmul x1 (Int.ofNat 6))) (A.zmul a26 (Int.ofNat 1))) (Int.ofNat 26)))).bind fun a38 =>
    some (.inl ((A.bits .or .u8 v23 a38), (A.wrp .i64 (A.zadd v24 1))))
  else
    some (.inr v23)

/--  *lineal refine.table .all -/
noncomputable def R68c (A : Ar) (x1 : Int) (x2 : Int) (x3 : List D) (x4 : List D) : Option (Int) :=
  (R76 A x2).bind fun r6 =>
  (iter (R68cL0 A x1 x4 r6) (0, 0)).bind (fun v41 =>
  some v41)

noncomputable def R58aL0 (A : Ar) (x2 : List D) : (Int × List D) → Option ((Int × List D) ⊕ (List D)) := fun (v38, v39) =>
  bif (A.zlt v38 (A.len x2)) then
    (gt A (cG (lc (cI .i64) (lc (cI .i64) (l1 (cI .i64))))) x2 v38).bind fun (a41, a42, a43) =>
    (ck (A.zle 0 a42)).bind fun _ =>
    (ck (A.zlt a42 (Int.ofNat 4))).bind fun _ =>
    (ck (A.zle 0 a41)).bind fun _ =>
    (ck (A.zlt a41 (Int.ofNat 6))).bind fun _ =>
    (gc A (cI .u8) v39 (A.nat (A.zadd (A.zadd (A.zadd 0 (A.zmul a42 (Int.ofNat 6))) (A.zmul a41 (Int.ofNat 1))) (Int.ofNat 2)))).bind fun a55 =>
    (nk (A.zlt a43 0)).bind fun _ =>
    (ck (A.zle 0 a42)).bind fun _ =>
    (ck (A.zlt a42 (Int.ofNat 4))).bind fun _ =>
    (ck (A.zle 0 a41)).bind fun _ =>
    (ck (A.zlt a41 (Int.ofNat 6))).bind fun _ =>
    (A.lget v39 (A.nat (A.zadd (A.zadd (A.zadd 0 (A.zmul a42 (Int.ofNat 6))) (A.zmul a41 (Int.ofNat 1))) (Int.ofNat 2)))).bind fun d68 =>
    some (.inl ((A.wrp .i64 (A.zadd v38 1)), (A.lset v39 (A.nat (A.zadd (A.zadd (A.zadd 0 (A.zmul a42 (Int.ofNat 6))) (A.zmul a41 (Int.ofNat 1))) (Int.ofNat 2))) (.int .u8 (A.bits .or .u8 a55 (A.shl .u8 1 a43))))))
  else
    some (.inr v39)

noncomputable def R58aL1 (A : Ar) (x3 : List D) (v94 : List D) : (Int × Int) → Option ((Int × Int) ⊕ (Int)) := fun (v103, v104) =>
  bif (A.zeq v104 v103) then
    some (.inr v103)
  else
    (R68b A 0 v104 x3 v94).bind fun r107 =>
    some (.inl (v104, (A.bits .or .u8 v104 r107)))

noncomputable def R58aL2 (A : Ar) (x1 : Int) (x3 : List D) : (Int × List D) → Option ((Int × List D) ⊕ (List D)) := fun (v93, v94) =>
  bif (A.zlt v93 x1) then
    (nk (A.zlt v93 0)).bind fun _ =>
    (R68b A 0 (A.shl .u8 1 v93) x3 v94).bind fun r99 =>
    (iter (R58aL1 A x3 v94) ((A.shl .u8 1 v93), (A.bits .or .u8 (A.shl .u8 1 v93) r99))).bind (fun v108 =>
    (ck (A.zle 0 v93)).bind fun _ =>
    (ck (A.zlt v93 (Int.ofNat 6))).bind fun _ =>
    (A.lget v94 (A.nat (A.zadd (A.zadd 0 (A.zmul v93 (Int.ofNat 1))) (Int.ofNat 26)))).bind fun d114 =>
    some (.inl ((A.wrp .i64 (A.zadd v93 1)), (A.lset v94 (A.nat (A.zadd (A.zadd 0 (A.zmul v93 (Int.ofNat 1))) (Int.ofNat 26))) (.int .u8 v108)))))
  else
    some (.inr v94)

noncomputable def R58aL3 (A : Ar) (x1 : Int) (x3 : List D) (v167 : Int) : (Int × List D) → Option ((Int × List D) ⊕ (List D)) := fun (v192, v193) =>
  bif (A.zlt v192 x1) then
    (ck (A.zle 0 v192)).bind fun _ =>
    (ck (A.zlt v192 (Int.ofNat 6))).bind fun _ =>
    (gc A (cI .u8) v193 (A.nat (A.zadd (A.zadd 0 (A.zmul v192 (Int.ofNat 1))) (Int.ofNat 26)))).bind fun a199 =>
    (R68b A v167 a199 x3 v193).bind fun r203 =>
    (R68c A 0 r203 x3 v193).bind fun r205 =>
    (ck (A.zle 0 v167)).bind fun _ =>
    (ck (A.zlt v167 (Int.ofNat 4))).bind fun _ =>
    (ck (A.zle 0 v192)).bind fun _ =>
    (ck (A.zlt v192 (Int.ofNat 6))).bind fun _ =>
    (A.lget v193 (A.nat (A.zadd (A.zadd (A.zadd 0 (A.zmul v167 (Int.ofNat 6))) (A.zmul v192 (Int.ofNat 1))) (Int.ofNat 26)))).bind fun d214 =>
    some (.inl ((A.wrp .i64 (A.zadd v192 1)), (A.lset v193 (A.nat (A.zadd (A.zadd (A.zadd 0 (A.zmul v167 (Int.ofNat 6))) (A.zmul v192 (Int.ofNat 1))) (Int.ofNat 26))) (.int .u8 r205))))
  else
    some (.inr v193)

noncomputable def R58aL4 (A : Ar) (x1 : Int) (x3 : List D) : (Int × List D) → Option ((Int × List D) ⊕ (List D)) := fun (v167, v168) =>
  bif (A.zle v167 3) then
    (iter (R58aL3 A x1 x3 v167) (0, v168)).bind (fun v216 =>
    some (.inl ((A.wrp .i64 (A.zadd v167 1)), v216)))
  else
    some (.inr v168)

/-- lineal refine.newFrame -/
noncomputable def R58a (A : Ar) (x1 : Int) (x2 : List D) (x3 : List D) : Option ((List D) ⊕ (Unit)) :=
  (R33 A x1 x2).bind fun r5 =>
  bif r5 then
    (iter (R58aL0 A x2) (0, [(.int .i64 x1), (.list 3 x2), (.int .u8 0), (.int .u8 0), (.int .u8 0), (.int .u8 0), (.int .u8 0), (.int .u8 0), (.int .u8 0), (.int .u8 0), (.int .u8 0), (.int .u8 0), (.int .u8 0), (.int .u8 0), (.int .u8 0), (.int .u8 0), (.int .u8 0), (.int .u8 0), (.int .u8 0), (.int .u8 0), (.int .u8 0), (.int .u8 0), (.int .u8 0), (.int .u8 0), (.int .u8 0), (.int .u8 0), (.int .u8 0), (.int .u8 0), (.int .u8 0), (.int .u8 0), (.int .u8 0), (.int .u8 0), (.int .u8 0), (.int .u8 0), (.int .u8 0), (.int .u8 0), (.int .u8 0), (.int .u8 0), (.int .u8 0), (.int .u8 0), (.int .u8 0), (.int .u8 0), (.int .u8 0), (.int .u8 0), (.int .u8 0), (.int .u8 0), (.int .u8 0), (.int .u8 0), (.int .u8 0), (.int .u8 0)])).bind (fun v70 =>
    (iter (R58aL2 A x1 x3) (0, v70)).bind (fun v116 =>
    (iter (R58aL4 A x1 x3) (1, v116)).bind (fun v218 =>
    some (.inl v218))))
  else
    some (.inr ())

/-- lineal refine.frames -/
noncomputable def R70 (A : Ar) (x1 : Int) (x2 : List D) (x3 : Int) (x4 : List D) : Option ((List D × List D) ⊕ (List D) ⊕ (Unit)) :=
  (R58 A x1 x2).bind (Sum.elim (fun r6 =>
    (R58a A x3 x4 r6).bind (Sum.elim (fun r10 =>
      some (.inl (r6, r10))) (fun _ =>
      some (.inr (.inl r6))))) (fun _ =>
    some (.inr (.inr ()))))

noncomputable def R62L0 (A : Ar) (x1 : List D) (x2 : List D) : (Int × Int) → Option ((Int × Int) ⊕ (Int)) := fun (v13, v14) =>
  bif (A.zlt v14 (A.len x1)) then
    (gt A (cI .i64) x1 v14).bind fun a16 =>
    (R68a A a16 v13 x2).bind fun r21 =>
    some (.inl (r21, (A.wrp .i64 (A.zadd v14 1))))
  else
    some (.inr v13)

/--  *lineal refine.frame .follow -/
noncomputable def R62 (A : Ar) (x1 : List D) (x2 : List D) : Option (Int) :=
  (gc A (cI .u8) x2 (A.nat (A.zadd 0 (Int.ofNat 26)))).bind fun a3 =>
  (iter (R62L0 A x1 x2) (a3, 0)).bind (fun v22 =>
  some v22)

noncomputable def R62aL0 (A : Ar) (x1 : List D) (x2 : List D) (x3 : List D) : (Int × Int) → Option ((Int × Int) ⊕ (Int)) := fun (v14, v15) =>
  bif (A.zlt v15 (A.len x1)) then
    (gt A (cI .i64) x1 v15).bind fun a17 =>
    (R68c A a17 v14 x2 x3).bind fun r22 =>
    some (.inl (r22, (A.wrp .i64 (A.zadd v15 1))))
  else
    some (.inr v14)

/--  *lineal refine.frame .follow -/
noncomputable def R62a (A : Ar) (x1 : List D) (x2 : List D) (x3 : List D) : Option (Int) :=
  (gc A (cI .u8) x3 (A.nat (A.zadd 0 (Int.ofNat 26)))).bind fun a4 =>
  (iter (R62aL0 A x1 x2 x3) (a4, 0)).bind (fun v23 =>
  some v23)

/-- slices.Clone   int int  -/
noncomputable def R67 (A : Ar) (x1 : List D) : Option (List D) :=
  bif (A.zlt 0 (A.len x1)) then
    (ap A [] x1).bind fun l4 =>
    some l4
  else
    both (
      some []) (
      (ap A [] x1).bind fun l8 =>
      some l8)

noncomputable def R23L0 (A : Ar) (r6 : List D) (r7 : List D) (a161 : Int) (a162 : Int) (a163 : List D) : (List D × Int × List (D × D)) → Option ((List D × Int × List (D × D)) ⊕ (List D × List (D × D))) := fun (v193, v194, v195) =>
  bif (A.zle v194 3) then
    (R68a A v194 a161 r6).bind fun r198 =>
    (R68c A v194 a162 r6 r7).bind fun r200 =>
    (R67 A a163).bind fun r202 =>
    (ap A r202 [(.int .i64 v194)]).bind fun l203 =>
    (
      bif (A.zeq r198 0) then
        some false
      else
        (lk A cB v195 (.agg [(.int .u8 r198), (.int .u8 r200)])).bind fun o211 => o211.elim (
          some true) fun a208 =>
        some (!a208)).bind fun v212 =>
    (
      bif v212 then
        (ap A v193 [(.agg [(.int .u8 r198), (.int .u8 r200), (.list 1 l203)])]).bind fun l215 =>
        some (l215, (A.mput v195 (.agg [(.int .u8 r198), (.int .u8 r200)]) (.bool true)))
      else
        some (v193, v195)).bind fun (v219, v220) =>
    some (.inl (v219, (A.wrp .i64 (A.zadd v194 1)), v220))
  else
    some (.inr (v193, v195))

noncomputable def R23L1 (A : Ar) (r6 : List D) (r7 : List D) : (List D × List (D × D)) → Option ((List D × List (D × D)) ⊕ ((List (D × D)) ⊕ (List D × List (D × D)))) := fun (v158, v159) =>
  bif (A.zlt 0 (A.len v158)) then
    (gc A (cG (lc (cI .u8) (lc (cI .u8) (l1 (cL 1))))) v158 0).bind fun (a161, a162, a163) =>
    bif (A.zeq a162 0) then
      some (.inr (.inr (a163, v159)))
    else
      (iter (R23L0 A r6 r7 a161 a162 a163) (v158, 1, v159)).bind (fun (v222, v223) =>
      (sl A v222 1 (A.len v222)).bind fun l225 =>
      some (.inl (l225, v223)))
  else
    some (.inr (.inl v159))

/-- lineal refine.Shows -/
noncomputable def R23 (A : Ar) (x1 : Int) (x2 : List D) (x3 : Int) (x4 : List D) : Option (List D × Int) :=
  (R70 A x1 x2 x3 x4).bind (Sum.elim (fun (r6, r7) =>
    (R62 A [] r6).bind fun r12 =>
    (R62a A [] r6 r7).bind fun r14 =>
    (iter (R23L1 A r6 r7) ([(.agg [(.int .u8 r12), (.int .u8 r14), (.list 1 [])])], (A.mput [] (.agg [(.int .u8 r12), (.int .u8 r14)]) (.bool true)))).bind (Sum.elim (fun v231 =>
      some ([], 5)) (fun (v232, v233) =>
      some (v232, 0)))) (Sum.elim (fun r8 =>
      some ([], 50)) (fun _ =>
      some ([], 50))))

noncomputable def R27L0 (A : Ar) (x1 : List D) (x2 : List D) : Int → Option ((Int) ⊕ ((Unit) ⊕ (Unit))) := fun v14 =>
  bif (A.zlt v14 (A.len x1)) then
    (gt A (cI .i64) x1 v14).bind fun a16 =>
    (gt A (cI .i64) x2 v14).bind fun a20 =>
    bif (A.zeq a16 a20) then
      some (.inl (A.wrp .i64 (A.zadd v14 1)))
    else
      some (.inr (.inr ()))
  else
    some (.inr (.inl ()))

/-- lineal linealref05.SameInts -/
noncomputable def R27 (A : Ar) (x1 : List D) (x2 : List D) : Option (Bool) :=
  bif (A.zeq (A.len x1) (A.len x2)) then
    (iter (R27L0 A x1 x2) 0).bind (Sum.elim (fun _ =>
      some true) (fun _ =>
      some false))
  else
    some false

/-- lineal lineallaw05.Awake -/
noncomputable def R17 (A : Ar) : Option (Bool) :=
  (R23 A 2 [(.agg [(.int .i64 0), (.int .i64 1), (.int .i64 1)]), (.agg [(.int .i64 1), (.int .i64 2), (.int .i64 0)]), (.agg [(.int .i64 1), (.int .i64 3), (.int .i64 0)])] 2 [(.agg [(.int .i64 0), (.int .i64 1), (.int .i64 1)]), (.agg [(.int .i64 1), (.int .i64 2), (.int .i64 0)])]).bind fun (r2, r3) =>
  (
    bif (A.zeq r3 0) then
      (R27 A r2 [(.int .i64 1), (.int .i64 3)]).bind fun r6 =>
      some r6
    else
      some false).bind fun v7 =>
  some v7

/-- lineal refine.seen -/
noncomputable def R61 (A : Ar) (x1 : Int) : Option (Bool) :=
  (R65 A 1 x1 3).bind fun r3 =>
  some r3

/-- lineal refine.IsTrace$1 -/
noncomputable def R60 (A : Ar) (x1 : Int) : Option (Bool) :=
  (R61 A x1).bind fun r3 =>
  some (!r3)

noncomputable def R106L0 (A : Ar) (x1 : List D) : Int → Option ((Int) ⊕ ((Unit) ⊕ (Int))) := fun v10 =>
  bif (A.zlt v10 (A.len x1)) then
    (gt A (cI .i64) x1 v10).bind fun a12 =>
    (R60 A a12).bind fun r17 =>
    bif r17 then
      some (.inr (.inr v10))
    else
      some (.inl (A.wrp .i64 (A.zadd v10 1)))
  else
    some (.inr (.inl ()))

/-- slices.IndexFunc   int int  -/
noncomputable def R106 (A : Ar) (x1 : List D) : Option (Int) :=
  (iter (R106L0 A x1) 0).bind (Sum.elim (fun _ =>
    some (-1)) (fun v19 =>
    some v19))

/-- slices.ContainsFunc   int int  -/
noncomputable def R59 (A : Ar) (x1 : List D) : Option (Bool) :=
  (R106 A x1).bind fun r3 =>
  some (A.zle 0 r3)

/-- lineal refine.IsTrace -/
noncomputable def R18 (A : Ar) (x1 : Int) (x2 : List D) (x3 : List D) : Option (Bool × Int) :=
  (R58 A x1 x2).bind (Sum.elim (fun r5 =>
    (
      bif (A.zlt 1000 (A.len x3)) then
        some true
      else
        (R59 A x3).bind fun r10 =>
        some r10).bind fun v11 =>
    bif v11 then
      some (false, 2)
    else
      (R62 A x3 r5).bind fun r15 =>
      some ((!(A.zeq r15 0)), 0)) (fun _ =>
    some (false, 50)))

/-- lineal linealref05.IsState -/
noncomputable def R77 (A : Ar) (x1 : Int) (x2 : List D) (x3 : Int) : Option (Bool) :=
  (
    bif (A.zle 0 x3) then
      some (A.zlt x3 x1)
    else
      some false).bind fun v5 =>
  some v5

noncomputable def R34L0 (A : Ar) (a51 : Int) (a52 : Int) (a53 : Int) (l67 : List D) : Int → Option ((Int) ⊕ ((Unit) ⊕ (Unit))) := fun v81 =>
  bif (A.zlt v81 (A.len l67)) then
    (gt A (cG (lc (cI .i64) (lc (cI .i64) (l1 (cI .i64))))) l67 v81).bind fun (a83, a84, a85) =>
    bif (A.deq [(.int .i64 a51), (.int .i64 a52), (.int .i64 a53)] [(.int .i64 a83), (.int .i64 a84), (.int .i64 a85)]) then
      some (.inr (.inr ()))
    else
      some (.inl (A.wrp .i64 (A.zadd v81 1)))
  else
    some (.inr (.inl ()))

noncomputable def R34L1 (A : Ar) (x1 : Int) (x2 : List D) : Int → Option ((Int) ⊕ ((Unit) ⊕ (Unit))) := fun v49 =>
  bif (A.zlt v49 (A.len x2)) then
    (gt A (cG (lc (cI .i64) (lc (cI .i64) (l1 (cI .i64))))) x2 v49).bind fun (a51, a52, a53) =>
    (
      (R77 A x1 x2 a51).bind fun r58 =>
      bif r58 then
        (R77 A x1 x2 a53).bind fun r61 =>
        bif r61 then
          bif (A.zlt a52 0) then
            some true
          else
            some (A.zlt 3 a52)
        else
          some true
      else
        some true).bind fun v64 =>
    bif v64 then
      some (.inr (.inr ()))
    else
      (sl A x2 0 v49).bind fun l67 =>
      (iter (R34L0 A a51 a52 a53 l67) 0).bind (Sum.elim (fun _ =>
        some (.inl (A.wrp .i64 (A.zadd v49 1)))) (fun _ =>
        some (.inr (.inr ()))))
  else
    some (.inr (.inl ()))

/-- lineal linealref05.Valid -/
noncomputable def R34 (A : Ar) (x1 : Int) (x2 : List D) : Option (Bool) :=
  (
    bif (A.zlt x1 1) then
      some true
    else
      bif (A.zlt 6 x1) then
        some true
      else
        some (A.zlt 24 (A.len x2))).bind fun v5 =>
  bif v5 then
    some false
  else
    (iter (R34L1 A x1 x2) 0).bind (Sum.elim (fun _ =>
      some true) (fun _ =>
      some false))

/-- lineal linealref05.IsSeen -/
noncomputable def R63 (A : Ar) (x1 : Int) : Option (Bool) :=
  (
    bif (A.zle 1 x1) then
      some (A.zle x1 3)
    else
      some false).bind fun v3 =>
  some v3

noncomputable def R107L0 (A : Ar) (x2 : List D) (x3 : Int) (x4 : Int) : (Int × Int) → Option ((Int × Int) ⊕ (Int)) := fun (v22, v23) =>
  bif (A.zlt v23 (A.len x2)) then
    (gt A (cG (lc (cI .i64) (lc (cI .i64) (l1 (cI .i64))))) x2 v23).bind fun (a25, a26, a27) =>
    (
      bif (A.zeq a26 x4) then
        (nk (A.zlt a25 0)).bind fun _ =>
        some (A.zeq (A.bits .and .i64 (A.shr .i64 x3 a25) 1) 1)
      else
        some false).bind fun v34 =>
    (
      bif v34 then
        (nk (A.zlt a27 0)).bind fun _ =>
        some (A.bits .or .i64 v22 (A.shl .i64 1 a27))
      else
        some v22).bind fun v39 =>
    some (.inl (v39, (A.wrp .i64 (A.zadd v23 1))))
  else
    some (.inr v22)

/-- lineal linealref05.step -/
noncomputable def R107 (A : Ar) (x1 : Int) (x2 : List D) (x3 : Int) (x4 : Int) : Option (Int) :=
  (iter (R107L0 A x2 x3 x4) (0, 0)).bind (fun v41 =>
  some v41)

noncomputable def R73L0 (A : Ar) (x1 : Int) (x2 : List D) : (Int × Int) → Option ((Int × Int) ⊕ (Int)) := fun (v7, v8) =>
  bif (A.zlt v8 x1) then
    (R107 A x1 x2 v7 0).bind fun r11 =>
    some (.inl ((A.bits .or .i64 v7 r11), (A.wrp .i64 (A.zadd v8 1))))
  else
    some (.inr v7)

/-- lineal linealref05.quiet -/
noncomputable def R73 (A : Ar) (x1 : Int) (x2 : List D) (x3 : Int) : Option (Int) :=
  (iter (R73L0 A x1 x2) (x3, 0)).bind (fun v12 =>
  some v12)

/-- lineal linealref05.comes -/
noncomputable def R74 (A : Ar) (x1 : Int) (x2 : List D) (x3 : Int) (x4 : Int) : Option (Int) :=
  bif (A.zeq x4 0) then
    (R73 A x1 x2 x3).bind fun r7 =>
    some r7
  else
    (R73 A x1 x2 x3).bind fun r9 =>
    (R107 A x1 x2 r9 x4).bind fun r11 =>
    (R73 A x1 x2 r11).bind fun r13 =>
    some r13

noncomputable def R64L0 (A : Ar) (x1 : Int) (x2 : List D) (x3 : List D) : (Int × Int) → Option ((Int × Int) ⊕ (Int)) := fun (v13, v14) =>
  bif (A.zlt v14 (A.len x3)) then
    (gt A (cI .i64) x3 v14).bind fun a16 =>
    (R74 A x1 x2 v13 a16).bind fun r21 =>
    some (.inl (r21, (A.wrp .i64 (A.zadd v14 1))))
  else
    some (.inr v13)

/-- lineal linealref05.behind -/
noncomputable def R64 (A : Ar) (x1 : Int) (x2 : List D) (x3 : List D) : Option (Int) :=
  (R73 A x1 x2 1).bind fun r5 =>
  (iter (R64L0 A x1 x2 x3) (r5, 0)).bind (fun v22 =>
  some v22)

noncomputable def R19L0 (A : Ar) (x3 : List D) : Int → Option ((Int) ⊕ ((Unit) ⊕ (Unit))) := fun v15 =>
  bif (A.zlt v15 (A.len x3)) then
    (gt A (cI .i64) x3 v15).bind fun a17 =>
    (R63 A a17).bind fun r22 =>
    bif r22 then
      some (.inl (A.wrp .i64 (A.zadd v15 1)))
    else
      some (.inr (.inr ()))
  else
    some (.inr (.inl ()))

/-- lineal linealref05.IsTrace -/
noncomputable def R19 (A : Ar) (x1 : Int) (x2 : List D) (x3 : List D) : Option (Bool × Int) :=
  (R34 A x1 x2).bind fun r5 =>
  bif r5 then
    (iter (R19L0 A x3) 0).bind (Sum.elim (fun _ =>
      bif (A.zlt 1000 (A.len x3)) then
        some (false, 2)
      else
        (R64 A x1 x2 x3).bind fun r27 =>
        some ((!(A.zeq r27 0)), 0)) (fun _ =>
      some (false, 2)))
  else
    some (false, 50)

noncomputable def R68dL0 (A : Ar) (x1 : Int) (x4 : List D) (r6 : List D) : (Int × Int) → Option ((Int × Int) ⊕ (Int)) := fun (v23, v24) =>
  bif (A.zlt v24 (A.len r6)) then
    (gt A (cI .i64) r6 v24).bind fun a26 =>
    (ck (A.zle 0 x1)).bind fun _ =>
    (ck (A.zlt x1 (Int.ofNat 4))).bind fun _ =>
    (ck (A.zle 0 a26)).bind fun _ =>
    (ck (A.zlt a26 (Int.ofNat 6))).bind fun _ =>
    (gc A (cI .u8) x4 (A.nat (A.zadd (A.zadd (A.zadd 0 (A.zmul x1 (Int.ofNat 6))) (A.zmul a26 (Int.ofNat 1))) (Int.ofNat 2)))).bind fun a38 =>
    some (.inl ((A.bits .or .u8 v23 a38), (A.wrp .i64 (A.zadd v24 1))))
  else
    some (.inr v23)

/--  *lineal refine.table .all -/
noncomputable def R68d (A : Ar) (x1 : Int) (x2 : Int) (x3 : Int) (x4 : List D) : Option (Int) :=
  (R76 A x2).bind fun r6 =>
  (iter (R68dL0 A x1 x4 r6) (0, 0)).bind (fun v41 =>
  some v41)

noncomputable def R68eL0 (A : Ar) (x1 : Int) (x4 : List D) (r6 : List D) : (Int × Int) → Option ((Int × Int) ⊕ (Int)) := fun (v23, v24) =>
  bif (A.zlt v24 (A.len r6)) then
    (gt A (cI .i64) r6 v24).bind fun a26 =>
    (ck (A.zle 0 x1)).bind fun _ =>
    (ck (A.zlt x1 (Int.ofNat 4))).bind fun _ =>
    (ck (A.zle 0 a26)).bind fun _ =>
    (ck (A.zlt a26 (Int.ofNat 6))).bind fun _ =>
    (gc A (cI .u8) x4 (A.nat (A.zadd (A.zadd (A.zadd 0 (A.zmul x1 (Int.ofNat 6))) (A.zmul a26 (Int.ofNat 1))) (Int.ofNat 26)))).bind fun a38 =>
    some (.inl ((A.bits .or .u8 v23 a38), (A.wrp .i64 (A.zadd v24 1))))
  else
    some (.inr v23)

/--  *lineal refine.table .all -/
noncomputable def R68e (A : Ar) (x1 : Int) (x2 : Int) (x3 : Int) (x4 : List D) : Option (Int) :=
  (R76 A x2).bind fun r6 =>
  (iter (R68eL0 A x1 x4 r6) (0, 0)).bind (fun v41 =>
  some v41)

noncomputable def R58bL0 (A : Ar) (x2 : List D) : (Int × List D) → Option ((Int × List D) ⊕ (List D)) := fun (v38, v39) =>
  bif (A.zlt v38 (A.len x2)) then
    (gt A (cG (lc (cI .i64) (lc (cI .i64) (l1 (cI .i64))))) x2 v38).bind fun (a41, a42, a43) =>
    (ck (A.zle 0 a42)).bind fun _ =>
    (ck (A.zlt a42 (Int.ofNat 4))).bind fun _ =>
    (ck (A.zle 0 a41)).bind fun _ =>
    (ck (A.zlt a41 (Int.ofNat 6))).bind fun _ =>
    (gc A (cI .u8) v39 (A.nat (A.zadd (A.zadd (A.zadd 0 (A.zmul a42 (Int.ofNat 6))) (A.zmul a41 (Int.ofNat 1))) (Int.ofNat 2)))).bind fun a55 =>
    (nk (A.zlt a43 0)).bind fun _ =>
    (ck (A.zle 0 a42)).bind fun _ =>
    (ck (A.zlt a42 (Int.ofNat 4))).bind fun _ =>
    (ck (A.zle 0 a41)).bind fun _ =>
    (ck (A.zlt a41 (Int.ofNat 6))).bind fun _ =>
    (A.lget v39 (A.nat (A.zadd (A.zadd (A.zadd 0 (A.zmul a42 (Int.ofNat 6))) (A.zmul a41 (Int.ofNat 1))) (Int.ofNat 2)))).bind fun d68 =>
    some (.inl ((A.wrp .i64 (A.zadd v38 1)), (A.lset v39 (A.nat (A.zadd (A.zadd (A.zadd 0 (A.zmul a42 (Int.ofNat 6))) (A.zmul a41 (Int.ofNat 1))) (Int.ofNat 2))) (.int .u8 (A.bits .or .u8 a55 (A.shl .u8 1 a43))))))
  else
    some (.inr v39)

noncomputable def R58bL1 (A : Ar) (x3 : Int) (v94 : List D) : (Int × Int) → Option ((Int × Int) ⊕ (Int)) := fun (v103, v104) =>
  bif (A.zeq v104 v103) then
    some (.inr v103)
  else
    (R68d A 0 v104 x3 v94).bind fun r107 =>
    some (.inl (v104, (A.bits .or .u8 v104 r107)))

noncomputable def R58bL2 (A : Ar) (x1 : Int) (x3 : Int) : (Int × List D) → Option ((Int × List D) ⊕ (List D)) := fun (v93, v94) =>
  bif (A.zlt v93 x1) then
    (nk (A.zlt v93 0)).bind fun _ =>
    (R68d A 0 (A.shl .u8 1 v93) x3 v94).bind fun r99 =>
    (iter (R58bL1 A x3 v94) ((A.shl .u8 1 v93), (A.bits .or .u8 (A.shl .u8 1 v93) r99))).bind (fun v108 =>
    (ck (A.zle 0 v93)).bind fun _ =>
    (ck (A.zlt v93 (Int.ofNat 6))).bind fun _ =>
    (A.lget v94 (A.nat (A.zadd (A.zadd 0 (A.zmul v93 (Int.ofNat 1))) (Int.ofNat 26)))).bind fun d114 =>
    some (.inl ((A.wrp .i64 (A.zadd v93 1)), (A.lset v94 (A.nat (A.zadd (A.zadd 0 (A.zmul v93 (Int.ofNat 1))) (Int.ofNat 26))) (.int .u8 v108)))))
  else
    some (.inr v94)

noncomputable def R58bL3 (A : Ar) (x1 : Int) (x3 : Int) (v167 : Int) : (Int × List D) → Option ((Int × List D) ⊕ (List D)) := fun (v192, v193) =>
  bif (A.zlt v192 x1) then
    (ck (A.zle 0 v192)).bind fun _ =>
    (ck (A.zlt v192 (Int.ofNat 6))).bind fun _ =>
    (gc A (cI .u8) v193 (A.nat (A.zadd (A.zadd 0 (A.zmul v192 (Int.ofNat 1))) (Int.ofNat 26)))).bind fun a199 =>
    (R68d A v167 a199 x3 v193).bind fun r203 =>
    (R68e A 0 r203 x3 v193).bind fun r205 =>
    (ck (A.zle 0 v167)).bind fun _ =>
    (ck (A.zlt v167 (Int.ofNat 4))).bind fun _ =>
    (ck (A.zle 0 v192)).bind fun _ =>
    (ck (A.zlt v192 (Int.ofNat 6))).bind fun _ =>
    (A.lget v193 (A.nat (A.zadd (A.zadd (A.zadd 0 (A.zmul v167 (Int.ofNat 6))) (A.zmul v192 (Int.ofNat 1))) (Int.ofNat 26)))).bind fun d214 =>
    some (.inl ((A.wrp .i64 (A.zadd v192 1)), (A.lset v193 (A.nat (A.zadd (A.zadd (A.zadd 0 (A.zmul v167 (Int.ofNat 6))) (A.zmul v192 (Int.ofNat 1))) (Int.ofNat 26))) (.int .u8 r205))))
  else
    some (.inr v193)

noncomputable def R58bL4 (A : Ar) (x1 : Int) (x3 : Int) : (Int × List D) → Option ((Int × List D) ⊕ (List D)) := fun (v167, v168) =>
  bif (A.zle v167 3) then
    (iter (R58bL3 A x1 x3 v167) (0, v168)).bind (fun v216 =>
    some (.inl ((A.wrp .i64 (A.zadd v167 1)), v216)))
  else
    some (.inr v168)

/-- lineal refine.newFrame -/
noncomputable def R58b (A : Ar) (x1 : Int) (x2 : List D) (x3 : Int) : Option ((List D) ⊕ (Unit)) :=
  (R33 A x1 x2).bind fun r5 =>
  bif r5 then
    (iter (R58bL0 A x2) (0, [(.int .i64 x1), (.list 3 x2), (.int .u8 0), (.int .u8 0), (.int .u8 0), (.int .u8 0), (.int .u8 0), (.int .u8 0), (.int .u8 0), (.int .u8 0), (.int .u8 0), (.int .u8 0), (.int .u8 0), (.int .u8 0), (.int .u8 0), (.int .u8 0), (.int .u8 0), (.int .u8 0), (.int .u8 0), (.int .u8 0), (.int .u8 0), (.int .u8 0), (.int .u8 0), (.int .u8 0), (.int .u8 0), (.int .u8 0), (.int .u8 0), (.int .u8 0), (.int .u8 0), (.int .u8 0), (.int .u8 0), (.int .u8 0), (.int .u8 0), (.int .u8 0), (.int .u8 0), (.int .u8 0), (.int .u8 0), (.int .u8 0), (.int .u8 0), (.int .u8 0), (.int .u8 0), (.int .u8 0), (.int .u8 0), (.int .u8 0), (.int .u8 0), (.int .u8 0), (.int .u8 0), (.int .u8 0), (.int .u8 0), (.int .u8 0)])).bind (fun v70 =>
    (iter (R58bL2 A x1 x3) (0, v70)).bind (fun v116 =>
    (iter (R58bL4 A x1 x3) (1, v116)).bind (fun v218 =>
    some (.inl v218))))
  else
    some (.inr ())

noncomputable def R62bL0 (A : Ar) (x1 : List D) (x2 : Int) (x3 : List D) : (Int × Int) → Option ((Int × Int) ⊕ (Int)) := fun (v14, v15) =>
  bif (A.zlt v15 (A.len x1)) then
    (gt A (cI .i64) x1 v15).bind fun a17 =>
    (R68e A a17 v14 x2 x3).bind fun r22 =>
    some (.inl (r22, (A.wrp .i64 (A.zadd v15 1))))
  else
    some (.inr v14)

/--  *lineal refine.frame .follow -/
noncomputable def R62b (A : Ar) (x1 : List D) (x2 : Int) (x3 : List D) : Option (Int) :=
  (gc A (cI .u8) x3 (A.nat (A.zadd 0 (Int.ofNat 26)))).bind fun a4 =>
  (iter (R62bL0 A x1 x2 x3) (a4, 0)).bind (fun v23 =>
  some v23)

noncomputable def R66L0 (A : Ar) (x1 : List D) (x2 : Int) (x3 : Int) (x4 : List D) (self38 : List D → Int → Int → List D → List D → Option (List D)) : (Int × List D) → Option ((Int × List D) ⊕ (List D)) := fun (v23, v24) =>
  (
    bif (A.zle v23 3) then
      some (A.zlt (A.len x1) x3)
    else
      some false).bind fun v26 =>
  bif v26 then
    (R67 A x1).bind fun r30 =>
    (ap A r30 [(.int .i64 v23)]).bind fun l31 =>
    (R68e A v23 x2 x3 x4).bind fun r36 =>
    (self38 l31 r36 x3 x4 v24).bind fun r38 =>
    some (.inl ((A.wrp .i64 (A.zadd v23 1)), r38))
  else
    some (.inr v24)

/-- lineal refine.Traces$1 -/
noncomputable def R66B (A : Ar) (self38 : List D → Int → Int → List D → List D → Option (List D)) (x1 : List D) (x2 : Int) (x3 : Int) (x4 : List D) (x5 : List D) : Option (List D) :=
  bif (A.zeq x2 0) then
    some x5
  else
    (ap A x5 [(.list 1 x1)]).bind fun l7 =>
    (iter (R66L0 A x1 x2 x3 x4 self38) (1, l7)).bind (fun v39 =>
    some v39)

noncomputable def R66R (A : Ar) : Nat → List D → Int → Int → List D → List D → Option (List D)
  | 0 => fun _ _ _ _ _ => none
  | n + 1 => fun x1 x2 x3 x4 x5 => R66B A (R66R A n) x1 x2 x3 x4 x5

noncomputable def R66 (A : Ar) (x1 : List D) (x2 : Int) (x3 : Int) (x4 : List D) (x5 : List D) : Option (List D) := R66R A fuel x1 x2 x3 x4 x5

/-- lineal refine.Traces -/
noncomputable def R20 (A : Ar) (x1 : Int) (x2 : List D) (x3 : Int) : Option (List D × Int) :=
  (R58b A x1 x2 x3).bind (Sum.elim (fun r5 =>
    (R65 A 0 x3 5).bind fun r9 =>
    bif r9 then
      (R62b A [] x3 r5).bind fun r12 =>
      (R66 A [] r12 x3 r5 []).bind fun r14 =>
      some (r14, 0)
    else
      some ([], 2)) (fun _ =>
    some ([], 50)))

noncomputable def R69L0 (A : Ar) (x1 : Int) (x2 : List D) (x3 : List D) (x4 : Int) (self40 : Int → List D → List D → Int → Option (List D)) : (List D × Int) → Option ((List D × Int) ⊕ (List D)) := fun (v24, v25) =>
  (
    bif (A.zle v25 3) then
      some (A.zlt 0 x4)
    else
      some false).bind fun v27 =>
  bif v27 then
    (ap A [] x3).bind fun l30 =>
    (ap A l30 [(.int .i64 v25)]).bind fun l34 =>
    (self40 x1 x2 l34 (A.wrp .i64 (A.zsub x4 1))).bind fun r39 =>
    (ap A v24 r39).bind fun l40 =>
    some (.inl (l40, (A.wrp .i64 (A.zadd v25 1))))
  else
    some (.inr v24)

/-- lineal linealref05.traces -/
noncomputable def R69B (A : Ar) (self40 : Int → List D → List D → Int → Option (List D)) (x1 : Int) (x2 : List D) (x3 : List D) (x4 : Int) : Option (List D) :=
  (R64 A x1 x2 x3).bind fun r6 =>
  bif (A.zeq r6 0) then
    some []
  else
    (iter (R69L0 A x1 x2 x3 x4 self40) ([(.list 1 x3)], 1)).bind (fun v44 =>
    some v44)

noncomputable def R69R (A : Ar) : Nat → Int → List D → List D → Int → Option (List D)
  | 0 => fun _ _ _ _ => none
  | n + 1 => fun x1 x2 x3 x4 => R69B A (R69R A n) x1 x2 x3 x4

noncomputable def R69 (A : Ar) (x1 : Int) (x2 : List D) (x3 : List D) (x4 : Int) : Option (List D) := R69R A fuel x1 x2 x3 x4

/-- lineal linealref05.Traces -/
noncomputable def R21 (A : Ar) (x1 : Int) (x2 : List D) (x3 : Int) : Option (List D × Int) :=
  (R34 A x1 x2).bind fun r5 =>
  bif r5 then
    (
      bif (A.zlt x3 0) then
        some true
      else
        some (A.zlt 5 x3)).bind fun v8 =>
    bif v8 then
      some ([], 2)
    else
      (R69 A x1 x2 [] x3).bind fun r12 =>
      some (r12, 0)
  else
    some ([], 50)

noncomputable def R22L0 (A : Ar) (x1 : List D) (x2 : List D) : Int → Option ((Int) ⊕ ((Unit) ⊕ (Unit))) := fun v16 =>
  bif (A.zlt v16 (A.len x1)) then
    (gt A (cL 1) x1 v16).bind fun a18 =>
    (gt A (cL 1) x2 v16).bind fun a22 =>
    (R27 A a18 a22).bind fun r27 =>
    bif r27 then
      some (.inl (A.wrp .i64 (A.zadd v16 1)))
    else
      some (.inr (.inr ()))
  else
    some (.inr (.inl ()))

/-- lineal linealref05.SameLists -/
noncomputable def R22 (A : Ar) (x1 : List D) (x2 : List D) : Option (Bool) :=
  bif (A.zeq (A.len x1) (A.len x2)) then
    (iter (R22L0 A x1 x2) 0).bind (Sum.elim (fun _ =>
      some true) (fun _ =>
      some false))
  else
    some false

/-- lineal lineallaw05.RefineTraces -/
noncomputable def R3 (A : Ar) (x1 : Int) (x2 : List D) (x3 : List D) (x4 : Int) : Option (Bool) :=
  (
    (R16 A x1 x2).bind fun r6 =>
    bif r6 then
      some true
    else
      some (A.zlt 1100 (A.len x3))).bind fun v8 =>
  bif v8 then
    (R17 A).bind fun r12 =>
    some r12
  else
    (R18 A x1 x2 x3).bind fun (r14, r15) =>
    (R19 A x1 x2 x3).bind fun (r17, r18) =>
    (R20 A x1 x2 x4).bind fun (r20, r21) =>
    (R21 A x1 x2 x4).bind fun (r23, r24) =>
    (
      bif (A.beq r14 r17) then
        bif (A.zeq r15 r18) then
          (R22 A r20 r23).bind fun r28 =>
          bif r28 then
            bif (A.zeq r21 r24) then
              (R17 A).bind fun r32 =>
              some r32
            else
              some false
          else
            some false
        else
          some false
      else
        some false).bind fun v33 =>
    some v33

noncomputable def R24L0 (A : Ar) (x1 : Int) (x2 : List D) (x3 : Int) (x4 : List D) (a344 : List D) : (List D × Int × List D) → Option ((List D × Int × List D) ⊕ ((List D × List D) ⊕ (List D × List D))) := fun (v394, v395, v396) =>
  bif (A.zle v395 3) then
    jn (fun ((v440, v441) : List D × List D) =>
      some (.inl (v440, (A.wrp .i64 (A.zadd v395 1)), v441))) fun K442 =>
      (ap A [] a344).bind fun l398 =>
      (ap A l398 [(.int .i64 v395)]).bind fun l402 =>
      (R64 A x1 x2 l402).bind fun r407 =>
      (R64 A x3 x4 l402).bind fun r409 =>
      (
        bif (A.zeq r407 0) then
          some true
        else
          (ck (A.zle 0 r407)).bind fun _ =>
          (ck (A.zlt r407 (Int.ofNat 64))).bind fun _ =>
          (ck (A.zle 0 r409)).bind fun _ =>
          (ck (A.zlt r409 (Int.ofNat 64))).bind fun _ =>
          (gc A cB v396 (A.nat (A.zadd (A.zadd 0 (A.zmul r407 (Int.ofNat 64))) (A.zmul r409 (Int.ofNat 1))))).bind fun a419 =>
          some a419).bind fun v422 =>
      bif v422 then
        K442 (v394, v396)
      else
        bif (A.zeq r409 0) then
          some (.inr (.inr (l402, v396)))
        else
          (ck (A.zle 0 r407)).bind fun _ =>
          (ck (A.zlt r407 (Int.ofNat 64))).bind fun _ =>
          (ck (A.zle 0 r409)).bind fun _ =>
          (ck (A.zlt r409 (Int.ofNat 64))).bind fun _ =>
          (A.lget v396 (A.nat (A.zadd (A.zadd 0 (A.zmul r407 (Int.ofNat 64))) (A.zmul r409 (Int.ofNat 1))))).bind fun d434 =>
          (ap A v394 [(.list 1 l402)]).bind fun l436 =>
          K442 (l436, (A.lset v396 (A.nat (A.zadd (A.zadd 0 (A.zmul r407 (Int.ofNat 64))) (A.zmul r409 (Int.ofNat 1)))) (.bool true)))
  else
    some (.inr (.inl (v394, v396)))

noncomputable def R24L1 (A : Ar) (x1 : Int) (x2 : List D) (x3 : Int) (x4 : List D) (v232 : List D) : (List D × Int × List D) → Option ((List D × Int × List D) ⊕ ((List D × List D) ⊕ (List D × List D))) := fun (v340, v341, v342) =>
  bif (A.zlt v341 (A.len v232)) then
    (gt A (cL 1) v232 v341).bind fun a344 =>
    (iter (R24L0 A x1 x2 x3 x4 a344) (v340, 1, v342)).bind (Sum.elim (fun (v443, v444) =>
      some (.inl (v443, (A.wrp .i64 (A.zadd v341 1)), v444))) (fun (v445, v446) =>
      some (.inr (.inr (v445, v446)))))
  else
    some (.inr (.inl (v340, v342)))

noncomputable def R24L2 (A : Ar) (x1 : Int) (x2 : List D) (x3 : Int) (x4 : List D) : (List D × List D) → Option ((List D × List D) ⊕ ((List D) ⊕ (List D × List D))) := fun (v232, v233) =>
  bif (A.zlt 0 (A.len v232)) then
    (iter (R24L1 A x1 x2 x3 x4 v232) ([], 0, v233)).bind (Sum.elim (fun (v448, v449) =>
      some (.inl (v448, v449))) (fun (v450, v451) =>
      some (.inr (.inr (v450, v451)))))
  else
    some (.inr (.inl v233))

/-- lineal linealref05.Shows -/
noncomputable def R24 (A : Ar) (x1 : Int) (x2 : List D) (x3 : Int) (x4 : List D) : Option (List D × Int) :=
  (
    (R34 A x1 x2).bind fun r6 =>
    bif r6 then
      (R34 A x3 x4).bind fun r9 =>
      some (!r9)
    else
      some true).bind fun v10 =>
  bif v10 then
    some ([], 50)
  else
    (iter (R24L2 A x1 x2 x3 x4) ([(.list 1 [])], (A.rep (Int.ofNat 4096) (.bool false)))).bind (Sum.elim (fun v453 =>
      some ([], 5)) (fun (v454, v455) =>
      some (v454, 0)))

noncomputable def R25L0 (A : Ar) (v61 : Int) (l78 : List D) : Int → Option ((Int) ⊕ ((Unit) ⊕ (Unit))) := fun v94 =>
  bif (A.zlt v94 6) then
    (ck (A.zle 0 v94)).bind fun _ =>
    (ck (A.zlt v94 (Int.ofNat 6))).bind fun _ =>
    (gc A (cI .u8) l78 (A.nat v94)).bind fun a101 =>
    (oc8 A a101).bind fun r104 =>
    (
      bif (A.zlt 1 r104) then
        some true
      else
        bif (A.zeq v61 0) then
          some (A.zlt 0 r104)
        else
          some false).bind fun v107 =>
    bif v107 then
      some (.inr (.inr ()))
    else
      some (.inl (A.wrp .i64 (A.zadd v94 1)))
  else
    some (.inr (.inl ()))

noncomputable def R25L1 (A : Ar) (l11 : List D) : Int → Option ((Int) ⊕ ((Unit) ⊕ (List D))) := fun v61 =>
  bif (A.zlt v61 4) then
    (ck (A.zle 0 v61)).bind fun _ =>
    (ck (A.zlt v61 (Int.ofNat 4))).bind fun _ =>
    (some (A.sub l11 (A.zmul v61 (Int.ofNat 6)) (A.zadd (A.zmul v61 (Int.ofNat 6)) (Int.ofNat 6)))).bind fun l69 =>
    (ck (A.zeq (A.len l69) (Int.ofNat 6))).bind fun _ =>
    (ck (A.zle (A.zadd (A.zadd 0 (Int.ofNat 0)) (Int.ofNat 6)) (A.len (A.rep (Int.ofNat 6) (.int .u8 0))))).bind fun _ =>
    (ga A (A.spl (A.rep (Int.ofNat 6) (.int .u8 0)) (A.zadd 0 (Int.ofNat 0)) l69) (A.zadd 0 (Int.ofNat 0)) (Int.ofNat 6)).bind fun l78 =>
    (iter (R25L0 A v61 l78) 0).bind (Sum.elim (fun _ =>
      some (.inl (A.wrp .i64 (A.zadd v61 1)))) (fun _ =>
      some (.inr (.inr (A.spl (A.rep (Int.ofNat 6) (.int .u8 0)) (A.zadd 0 (Int.ofNat 0)) l69)))))
  else
    some (.inr (.inl ()))

/-- lineal refine.Plain -/
noncomputable def R25 (A : Ar) (x1 : Int) (x2 : List D) : Option (Bool × Int) :=
  (R58 A x1 x2).bind (Sum.elim (fun r4 =>
    (ga A r4 (A.zadd 0 (Int.ofNat 2)) (Int.ofNat 24)).bind fun l11 =>
    (iter (R25L1 A l11) 0).bind (Sum.elim (fun _ =>
      some (true, 0)) (fun v111 =>
      some (false, 0)))) (fun _ =>
    some (false, 50)))

noncomputable def R26L0 (A : Ar) (a46 : Int) (a47 : Int) (l53 : List D) : Int → Option ((Int) ⊕ ((Unit) ⊕ (Unit))) := fun v70 =>
  bif (A.zlt v70 (A.len l53)) then
    (gt A (cG (lc (cI .i64) (lc (cI .i64) (l1 (cI .i64))))) l53 v70).bind fun (a72, a73, a74) =>
    (
      bif (A.zeq a46 a72) then
        some (A.zeq a47 a73)
      else
        some false).bind fun v79 =>
    bif v79 then
      some (.inr (.inr ()))
    else
      some (.inl (A.wrp .i64 (A.zadd v70 1)))
  else
    some (.inr (.inl ()))

noncomputable def R26L1 (A : Ar) (x2 : List D) : Int → Option ((Int) ⊕ ((Unit) ⊕ (Unit))) := fun v44 =>
  bif (A.zlt v44 (A.len x2)) then
    (gt A (cG (lc (cI .i64) (lc (cI .i64) (l1 (cI .i64))))) x2 v44).bind fun (a46, a47, a48) =>
    bif (A.zeq a47 0) then
      some (.inr (.inr ()))
    else
      (sl A x2 0 v44).bind fun l53 =>
      (iter (R26L0 A a46 a47 l53) 0).bind (Sum.elim (fun _ =>
        some (.inl (A.wrp .i64 (A.zadd v44 1)))) (fun _ =>
        some (.inr (.inr ()))))
  else
    some (.inr (.inl ()))

/-- lineal linealref05.Plain -/
noncomputable def R26 (A : Ar) (x1 : Int) (x2 : List D) : Option (Bool × Int) :=
  (R34 A x1 x2).bind fun r4 =>
  bif r4 then
    (iter (R26L1 A x2) 0).bind (Sum.elim (fun _ =>
      some (true, 0)) (fun _ =>
      some (false, 0)))
  else
    some (false, 50)

noncomputable def R72L0 (A : Ar) (x1 : List D) (x2 : Int) : Int → Option ((Int) ⊕ ((Unit) ⊕ (Int))) := fun v9 =>
  bif (A.zlt v9 (A.len x1)) then
    (gt A (cI .u8) x1 v9).bind fun a11 =>
    bif (A.zeq x2 a11) then
      some (.inr (.inr v9))
    else
      some (.inl (A.wrp .i64 (A.zadd v9 1)))
  else
    some (.inr (.inl ()))

/-- slices.Index   lineal refine.set lineal refine.set  -/
noncomputable def R72 (A : Ar) (x1 : List D) (x2 : Int) : Option (Int) :=
  (iter (R72L0 A x1 x2) 0).bind (Sum.elim (fun _ =>
    some (-1)) (fun v16 =>
    some v16))

noncomputable def R28L0 (A : Ar) (r4 : List D) (v69 : Int) : (List D × List D × Int) → Option ((List D × List D × Int) ⊕ (List D × List D)) := fun (v97, v98, v99) =>
  bif (A.zle v99 3) then
    (
      (gt A (cI .u8) v97 v69).bind fun a101 =>
      (R68a A v99 a101 r4).bind fun r106 =>
      bif (A.zeq r106 0) then
        some (v97, v98)
      else
        (R72 A v97 r106).bind fun r109 =>
        (
          bif (A.zlt r109 0) then
            (ap A v97 [(.int .u8 r106)]).bind fun l111 =>
            some (l111, (A.len v97))
          else
            some (v97, r109)).bind fun (v115, v116) =>
        (ap A v98 [(.agg [(.int .i64 v69), (.int .i64 v99), (.int .i64 v116)])]).bind fun l118 =>
        some (v115, l118)).bind fun (v122, v123) =>
    some (.inl (v122, v123, (A.wrp .i64 (A.zadd v99 1))))
  else
    some (.inr (v97, v98))

noncomputable def R28L1 (A : Ar) (r4 : List D) : (List D × List D × Int) → Option ((List D × List D × Int) ⊕ ((List D × List D) ⊕ (Unit))) := fun (v67, v68, v69) =>
  bif (A.zlt v69 (A.len v67)) then
    bif (A.zeq v69 6) then
      some (.inr (.inr ()))
    else
      (iter (R28L0 A r4 v69) (v67, v68, 1)).bind (fun (v125, v126) =>
      some (.inl (v125, v126, (A.wrp .i64 (A.zadd v69 1)))))
  else
    some (.inr (.inl (v67, v68)))

/-- lineal refine.Seen -/
noncomputable def R28 (A : Ar) (x1 : Int) (x2 : List D) : Option (Int × List D × Int) :=
  (R58 A x1 x2).bind (Sum.elim (fun r4 =>
    (R62 A [] r4).bind fun r8 =>
    (iter (R28L1 A r4) ([(.int .u8 r8)], [], 0)).bind (Sum.elim (fun (v128, v129) =>
      some ((A.len v128), v129, 0)) (fun _ =>
      some (0, [], 4)))) (fun _ =>
    some (0, [], 50)))

noncomputable def R29L0 (A : Ar) (v134 : List D) (r143 : Int) : Int → Option ((Int) ⊕ (Int)) := fun v153 =>
  (
    bif (A.zlt v153 (A.len v134)) then
      (gt A (cI .i64) v134 v153).bind fun a155 =>
      some (!(A.zeq a155 r143))
    else
      some false).bind fun v159 =>
  bif v159 then
    some (.inl (A.wrp .i64 (A.zadd v153 1)))
  else
    some (.inr v153)

noncomputable def R29L1 (A : Ar) (x1 : Int) (x2 : List D) (v91 : Int) : (List D × List D × Int) → Option ((List D × List D × Int) ⊕ (List D × List D)) := fun (v134, v135, v136) =>
  bif (A.zle v136 3) then
    (
      (gt A (cI .i64) v134 v91).bind fun a138 =>
      (R74 A x1 x2 a138 v136).bind fun r143 =>
      bif (A.zeq r143 0) then
        some (v134, v135)
      else
        (iter (R29L0 A v134 r143) 0).bind (fun v162 =>
        (
          bif (A.zeq v162 (A.len v134)) then
            (ap A v134 [(.int .i64 r143)]).bind fun l165 =>
            some l165
          else
            some v134).bind fun v169 =>
        (ap A v135 [(.agg [(.int .i64 v91), (.int .i64 v136), (.int .i64 v162)])]).bind fun l171 =>
        some (v169, l171))).bind fun (v175, v176) =>
    some (.inl (v175, v176, (A.wrp .i64 (A.zadd v136 1))))
  else
    some (.inr (v134, v135))

noncomputable def R29L2 (A : Ar) (x1 : Int) (x2 : List D) : (List D × List D × Int) → Option ((List D × List D × Int) ⊕ (List D × List D)) := fun (v89, v90, v91) =>
  bif (A.zlt v91 (A.len v89)) then
    (iter (R29L1 A x1 x2 v91) (v89, v90, 1)).bind (fun (v178, v179) =>
    some (.inl (v178, v179, (A.wrp .i64 (A.zadd v91 1)))))
  else
    some (.inr (v89, v90))

/-- lineal linealref05.Seen -/
noncomputable def R29 (A : Ar) (x1 : Int) (x2 : List D) : Option (Int × List D × Int) :=
  (R34 A x1 x2).bind fun r4 =>
  bif r4 then
    (R73 A x1 x2 1).bind fun r7 =>
    (iter (R29L2 A x1 x2) ([(.int .i64 r7)], [], 0)).bind (fun (v181, v182) =>
    bif (A.zlt 6 (A.len v181)) then
      some (0, [], 4)
    else
      some ((A.len v181), v182, 0))
  else
    some (0, [], 50)

noncomputable def R30L0 (A : Ar) (x2 : List D) (x4 : List D) : Int → Option ((Int) ⊕ ((Unit) ⊕ (Unit))) := fun v23 =>
  bif (A.zlt v23 (A.len x2)) then
    (gt A (cG (lc (cI .i64) (lc (cI .i64) (l1 (cI .i64))))) x2 v23).bind fun (a25, a26, a27) =>
    (gt A (cG (lc (cI .i64) (lc (cI .i64) (l1 (cI .i64))))) x4 v23).bind fun (a31, a32, a33) =>
    bif (A.deq [(.int .i64 a25), (.int .i64 a26), (.int .i64 a27)] [(.int .i64 a31), (.int .i64 a32), (.int .i64 a33)]) then
      some (.inl (A.wrp .i64 (A.zadd v23 1)))
    else
      some (.inr (.inr ()))
  else
    some (.inr (.inl ()))

/-- lineal linealref05.Same -/
noncomputable def R30 (A : Ar) (x1 : Int) (x2 : List D) (x3 : Int) (x4 : List D) : Option (Bool) :=
  (
    bif (A.zeq x1 x3) then
      some (!(A.zeq (A.len x2) (A.len x4)))
    else
      some true).bind fun v6 =>
  bif v6 then
    some false
  else
    (iter (R30L0 A x2 x4) 0).bind (Sum.elim (fun _ =>
      some true) (fun _ =>
      some false))

/-- lineal lineallaw05.RefineShows -/
noncomputable def R4 (A : Ar) (x1 : Int) (x2 : List D) (x3 : Int) (x4 : List D) : Option (Bool) :=
  (
    (R16 A x1 x2).bind fun r6 =>
    bif r6 then
      some true
    else
      (R16 A x3 x4).bind fun r9 =>
      some r9).bind fun v10 =>
  bif v10 then
    (R17 A).bind fun r14 =>
    some r14
  else
    (R23 A x1 x2 x3 x4).bind fun (r16, r17) =>
    (R24 A x1 x2 x3 x4).bind fun (r19, r20) =>
    (R25 A x1 x2).bind fun (r22, r23) =>
    (R26 A x1 x2).bind fun (r25, r26) =>
    (
      (R27 A r16 r19).bind fun r28 =>
      bif r28 then
        bif (A.zeq r17 r20) then
          bif (A.beq r22 r25) then
            some (!(A.zeq r23 r26))
          else
            some true
        else
          some true
      else
        some true).bind fun v32 =>
    bif v32 then
      some false
    else
      (R28 A x1 x2).bind fun (r36, r37, r38) =>
      (R29 A x1 x2).bind fun (r40, r41, r42) =>
      (
        (R30 A r36 r37 r40 r41).bind fun r44 =>
        bif r44 then
          bif (A.zeq r38 r42) then
            (R17 A).bind fun r48 =>
            some r48
          else
            some false
        else
          some false).bind fun v49 =>
      some v49

/-- cmp.isNaN int  -/
noncomputable def R126 (A : Ar) (x1 : Int) : Option (Bool) :=
  some (!(A.zeq x1 x1))

/-- cmp.Compare int  -/
noncomputable def R114 (A : Ar) (x1 : Int) (x2 : Int) : Option (Int) :=
  (R126 A x1).bind fun r4 =>
  (R126 A x2).bind fun r6 =>
  bif r4 then
    bif r6 then
      some 0
    else
      some (-1)
  else
    bif r6 then
      some 1
    else
      bif (A.zlt x1 x2) then
        some (-1)
      else
        bif (A.zlt x2 x1) then
          some 1
        else
          some 0

noncomputable def R109L0 (A : Ar) (x1 : List D) (x2 : Int) (x3 : Int) (x4 : Int) : Int → Option ((Int) ⊕ ((Unit) ⊕ (Int))) := fun v13 =>
  bif (A.zlt v13 (A.len x1)) then
    (gt A (cG (lc (cI .i64) (lc (cI .i64) (l1 (cI .i64))))) x1 v13).bind fun (a15, a16, a17) =>
    bif (A.deq [(.int .i64 x2), (.int .i64 x3), (.int .i64 x4)] [(.int .i64 a15), (.int .i64 a16), (.int .i64 a17)]) then
      some (.inr (.inr v13))
    else
      some (.inl (A.wrp .i64 (A.zadd v13 1)))
  else
    some (.inr (.inl ()))

/-- slices.Index   lineal api.Step lineal api.Step  -/
noncomputable def R109 (A : Ar) (x1 : List D) (x2 : Int) (x3 : Int) (x4 : Int) : Option (Int) :=
  (iter (R109L0 A x1 x2 x3 x4) 0).bind (Sum.elim (fun _ =>
    some (-1)) (fun v22 =>
    some v22))

/-- slices.Contains   lineal api.Step lineal api.Step  -/
noncomputable def R89 (A : Ar) (x1 : List D) (x2 : Int) (x3 : Int) (x4 : Int) : Option (Bool) :=
  (R109 A x1 x2 x3 x4).bind fun r6 =>
  some (A.zle 0 r6)

noncomputable def R43L0 (A : Ar) (x2 : List D) (x3 : Int) : (List D × Int) → Option ((List D × Int) ⊕ (List D)) := fun (v29, v30) =>
  bif (A.zlt v30 (A.len x2)) then
    (gt A (cG (lc (cI .i64) (lc (cI .i64) (l1 (cI .i64))))) x2 v30).bind fun (a32, a33, a34) =>
    (
      bif (A.zeq a33 x3) then
        some 0
      else
        some a33).bind fun v39 =>
    (R89 A v29 a32 v39 a34).bind fun r42 =>
    (
      bif r42 then
        some v29
      else
        (ap A v29 [(.agg [(.int .i64 a32), (.int .i64 v39), (.int .i64 a34)])]).bind fun l44 =>
        some l44).bind fun v48 =>
    some (.inl (v48, (A.wrp .i64 (A.zadd v30 1))))
  else
    some (.inr v29)

/-- lineal refine.Hidden -/
noncomputable def R43 (A : Ar) (x1 : Int) (x2 : List D) (x3 : Int) : Option (Int × List D × Int) :=
  (R33 A x1 x2).bind fun r5 =>
  bif r5 then
    (R61 A x3).bind fun r8 =>
    bif r8 then
      (iter (R43L0 A x2 x3) ([], 0)).bind (fun v50 =>
      some (x1, v50, 0))
    else
      some (0, [], 2)
  else
    some (0, [], 50)

/-- slices.Clone   lineal api.Step lineal api.Step  -/
noncomputable def R93 (A : Ar) (x1 : List D) : Option (List D) :=
  bif (A.zlt 0 (A.len x1)) then
    (ap A [] x1).bind fun l4 =>
    some l4
  else
    both (
      some []) (
      (ap A [] x1).bind fun l8 =>
      some l8)

/-- slices.Delete   lineal api.Step lineal api.Step  -/
noncomputable def R92 (A : Ar) (x1 : Int) (x2 : Int) (x3 : Int) (x4 : Int) (x5 : List D) : Option (Int × Int × List D) :=
  (ck (A.zle 0 x3)).bind fun _ =>
  (ck (A.zle x3 x4)).bind fun _ =>
  (ck (A.zle x4 x2)).bind fun _ =>
  (ck (A.zle x2 x2)).bind fun _ =>
  bif (A.zeq x3 x4) then
    some (x1, x2, x5)
  else
    (ck (A.zle 0 x3)).bind fun _ =>
    (ck (A.zle x3 x2)).bind fun _ =>
    (ck (A.zlt 0 x2)).bind fun _ =>
    (ck (A.zle 0 x4)).bind fun _ =>
    (ck (A.zle x4 x2)).bind fun _ =>
    (ck (A.zle x2 x2)).bind fun _ =>
    (ck (A.zle (A.zadd x3 (A.zsub x2 x4)) x2)).bind fun _ =>
    (ck (A.zle (A.zadd (A.zadd x1 x4) (A.zsub x2 x4)) (A.len x5))).bind fun _ =>
    (ck (A.zle (A.zadd x1 (A.zadd x3 (A.zsub x2 x4))) (A.len x5))).bind fun _ =>
    (ck (A.zle 0 (A.zadd x3 (A.zsub x2 x4)))).bind fun _ =>
    (ck (A.zle (A.zadd x3 (A.zsub x2 x4)) x2)).bind fun _ =>
    (ck (A.zle x2 x2)).bind fun _ =>
    (ck (A.zle (A.zadd (A.zadd x1 (A.zadd x3 (A.zsub x2 x4))) (A.zsub x2 (A.zadd x3 (A.zsub x2 x4)))) (A.len (A.spl x5 (A.zadd x1 x3) (A.sub x5 (A.zadd x1 x4) (A.zadd (A.zadd x1 x4) (A.zsub x2 x4))))))).bind fun _ =>
    some (x1, (A.zadd x3 (A.zsub x2 x4)), (A.fill (A.spl x5 (A.zadd x1 x3) (A.sub x5 (A.zadd x1 x4) (A.zadd (A.zadd x1 x4) (A.zsub x2 x4)))) (A.zadd x1 (A.zadd x3 (A.zsub x2 x4))) (A.zsub x2 (A.zadd x3 (A.zsub x2 x4))) (.agg [(.int .i64 0), (.int .i64 0), (.int .i64 0)])))

/-- slices.Delete   lineal api.Step lineal api.Step  -/
noncomputable def R92a (A : Ar) (x1 : List D) (x2 : Int) (x3 : Int) : Option (List D) :=
  (sl A x1 x2 x3).bind fun l4 =>
  (ck (A.zeq (A.len x1) x3)).bind fun _ =>
  bif (A.zeq x2 x3) then
    some x1
  else
    (sl A x1 0 x2).bind fun l13 =>
    (sl A x1 x3 (A.len x1)).bind fun l19 =>
    none

/-- lineal refine.Without -/
noncomputable def R45 (A : Ar) (x1 : Int) (x2 : List D) (x3 : Int) : Option (Int × List D × Int) :=
  (R33 A x1 x2).bind fun r5 =>
  bif r5 then
    (
      bif (A.zlt x3 0) then
        some true
      else
        some (A.zle (A.len x2) x3)).bind fun v8 =>
    bif v8 then
      some (0, [], 2)
    else
      (
        (R93 A x2).bind fun r12 =>
        bif (A.zlt 0 (A.len r12)) then
          (ck (scalars r12)).bind fun _ =>
          (R92 A 0 (A.len r12) x3 (A.wrp .i64 (A.zadd x3 1)) r12).bind fun (r16, r17, r18) =>
          (fz A r18 r16 r17).bind fun l19 =>
          some l19
        else
          (R92a A r12 x3 (A.wrp .i64 (A.zadd x3 1))).bind fun r24 =>
          some r24).bind fun v25 =>
      some (x1, v25, 0)
  else
    some (0, [], 50)

/-- lineal refine.Both$1 -/
noncomputable def R102 (A : Ar) (x1 : Int) (x2 : Int) (x3 : Int) (x4 : Int) (x5 : Int) (x6 : Int) (x7 : List D) (x8 : Int) (x9 : List D) : Option (List D) :=
  (R89 A x9 (A.wrp .i64 (A.zadd (A.wrp .i64 (A.zmul x1 x6)) x2)) x3 (A.wrp .i64 (A.zadd (A.wrp .i64 (A.zmul x4 x6)) x5))).bind fun r11 =>
  (
    bif r11 then
      some x9
    else
      (ap A x9 [(.agg [(.int .i64 (A.wrp .i64 (A.zadd (A.wrp .i64 (A.zmul x1 x6)) x2))), (.int .i64 x3), (.int .i64 (A.wrp .i64 (A.zadd (A.wrp .i64 (A.zmul x4 x6)) x5)))])]).bind fun l13 =>
      some l13).bind fun v17 =>
  some v17

noncomputable def R103 (A : Ar) (x1 : List D) : Option Unit := ck (A.zeq (A.len x1) 0)

noncomputable def R113L0 (A : Ar) (x1 : List D) : Int → Option ((Int) ⊕ ((Unit) ⊕ (Int))) := fun v8 =>
  bif (A.zlt v8 (A.len x1)) then
    (gt A (cI .i64) x1 v8).bind fun a10 =>
    bif (A.zeq a10 0) then
      some (.inl (A.wrp .i64 (A.zadd v8 1)))
    else
      some (.inr (.inr a10))
  else
    some (.inr (.inl ()))

/-- cmp.Or int  -/
noncomputable def R113 (A : Ar) (x1 : List D) : Option (Int) :=
  (iter (R113L0 A x1) 0).bind (Sum.elim (fun _ =>
    some 0) (fun v15 =>
    some v15))

/-- lineal refine.compareSteps -/
noncomputable def R104 (A : Ar) (x1 : Int) (x2 : Int) (x3 : Int) (x4 : Int) (x5 : Int) (x6 : Int) : Option (Int) :=
  (R114 A x1 x4).bind fun r8 =>
  (R114 A x2 x5).bind fun r10 =>
  (R114 A x3 x6).bind fun r12 =>
  (R113 A [(.int .i64 r8), (.int .i64 r10), (.int .i64 r12)]).bind fun r14 =>
  some r14

noncomputable def R103a (A : Ar) (x1 : Int) (x2 : Int) (x3 : Int) (x4 : Int) (x5 : Int) (x6 : List D) : Option (List D) := srt (cG (lc (cI .i64) (lc (cI .i64) (l1 (cI .i64))))) (fun (a0, a1, a2) (b0, b1, b2) => R104 A a0 a1 a2 b0 b1 b2) x1 x2 x6

noncomputable def R56L0 (A : Ar) (x1 : Int) (x3 : Int) (x4 : List D) (a74 : Int) (a75 : Int) (a76 : Int) : (Int × List D) → Option ((Int × List D) ⊕ (List D)) := fun (v95, v96) =>
  bif (A.zlt v95 (A.len x4)) then
    (gt A (cG (lc (cI .i64) (lc (cI .i64) (l1 (cI .i64))))) x4 v95).bind fun (a98, a99, a100) =>
    (
      bif (A.zeq a75 a99) then
        some (!(A.zeq a75 0))
      else
        some false).bind fun v105 =>
    (
      bif v105 then
        (R102 A a74 a98 a75 a76 a100 x3 x4 (A.wrp .i64 (A.zmul x1 x3)) v96).bind fun r109 =>
        some r109
      else
        some v96).bind fun v110 =>
    some (.inl ((A.wrp .i64 (A.zadd v95 1)), v110))
  else
    some (.inr v96)

noncomputable def R56L1 (A : Ar) (x1 : Int) (x3 : Int) (x4 : List D) (a74 : Int) (a75 : Int) (a76 : Int) : (Int × List D) → Option ((Int × List D) ⊕ (List D)) := fun (v120, v121) =>
  bif (A.zlt v120 x3) then
    (
      bif (A.zeq a75 0) then
        (R102 A a74 v120 0 a76 v120 x3 x4 (A.wrp .i64 (A.zmul x1 x3)) v121).bind fun r125 =>
        some r125
      else
        some v121).bind fun v126 =>
    some (.inl ((A.wrp .i64 (A.zadd v120 1)), v126))
  else
    some (.inr v121)

noncomputable def R56L2 (A : Ar) (x1 : Int) (x2 : List D) (x3 : Int) (x4 : List D) : (Int × List D) → Option ((Int × List D) ⊕ (List D)) := fun (v71, v72) =>
  bif (A.zlt v71 (A.len x2)) then
    (gt A (cG (lc (cI .i64) (lc (cI .i64) (l1 (cI .i64))))) x2 v71).bind fun (a74, a75, a76) =>
    (iter (R56L0 A x1 x3 x4 a74 a75 a76) (0, v72)).bind (fun v112 =>
    (iter (R56L1 A x1 x3 x4 a74 a75 a76) (0, v112)).bind (fun v128 =>
    some (.inl ((A.wrp .i64 (A.zadd v71 1)), v128))))
  else
    some (.inr v72)

noncomputable def R56L3 (A : Ar) (x1 : Int) (x3 : Int) (x4 : List D) (a158 : Int) (a159 : Int) (a160 : Int) : (Int × List D) → Option ((Int × List D) ⊕ (List D)) := fun (v170, v171) =>
  bif (A.zlt v170 x1) then
    (
      bif (A.zeq a159 0) then
        (R102 A v170 a158 0 v170 a160 x3 x4 (A.wrp .i64 (A.zmul x1 x3)) v171).bind fun r175 =>
        some r175
      else
        some v171).bind fun v176 =>
    some (.inl ((A.wrp .i64 (A.zadd v170 1)), v176))
  else
    some (.inr v171)

noncomputable def R56L4 (A : Ar) (x1 : Int) (x3 : Int) (x4 : List D) : (Int × List D) → Option ((Int × List D) ⊕ (List D)) := fun (v155, v156) =>
  bif (A.zlt v155 (A.len x4)) then
    (gt A (cG (lc (cI .i64) (lc (cI .i64) (l1 (cI .i64))))) x4 v155).bind fun (a158, a159, a160) =>
    (iter (R56L3 A x1 x3 x4 a158 a159 a160) (0, v156)).bind (fun v178 =>
    some (.inl ((A.wrp .i64 (A.zadd v155 1)), v178)))
  else
    some (.inr v156)

/-- lineal refine.Both -/
noncomputable def R56 (A : Ar) (x1 : Int) (x2 : List D) (x3 : Int) (x4 : List D) : Option (Int × List D × Int) :=
  (
    (R33 A x1 x2).bind fun r6 =>
    bif r6 then
      (R33 A x3 x4).bind fun r9 =>
      some (!r9)
    else
      some true).bind fun v10 =>
  bif v10 then
    some (0, [], 50)
  else
    bif (A.zlt 6 (A.wrp .i64 (A.zmul x1 x3))) then
      some (0, [], 4)
    else
      (iter (R56L2 A x1 x2 x3 x4) (0, [])).bind (fun v130 =>
      (iter (R56L4 A x1 x3 x4) (0, v130)).bind (fun v180 =>
      bif (A.zlt 24 (A.len v180)) then
        some (0, [], 4)
      else
        bif (A.zlt 0 (A.len v180)) then
          (ck (scalars v180)).bind fun _ =>
          (R103a A 0 (A.len v180) (A.wrp .i64 (A.zmul x1 x3)) 0 (A.len v180) v180).bind fun r187 =>
          (fz A r187 0 (A.len v180)).bind fun l188 =>
          some ((A.wrp .i64 (A.zmul x1 x3)), l188, 0)
        else
          (R103 A v180).bind fun () =>
          some ((A.wrp .i64 (A.zmul x1 x3)), v180, 0)))

noncomputable def R101L0 (A : Ar) (x1 : List D) (x2 : Int) (x3 : Int) (x4 : Int) : Int → Option ((Int) ⊕ ((Unit) ⊕ (Unit))) := fun v13 =>
  bif (A.zlt v13 (A.len x1)) then
    (gt A (cG (lc (cI .i64) (lc (cI .i64) (l1 (cI .i64))))) x1 v13).bind fun (a15, a16, a17) =>
    bif (A.deq [(.int .i64 x2), (.int .i64 x3), (.int .i64 x4)] [(.int .i64 a15), (.int .i64 a16), (.int .i64 a17)]) then
      some (.inr (.inr ()))
    else
      some (.inl (A.wrp .i64 (A.zadd v13 1)))
  else
    some (.inr (.inl ()))

/-- lineal linealref05.added -/
noncomputable def R101 (A : Ar) (x1 : List D) (x2 : Int) (x3 : Int) (x4 : Int) : Option (List D) :=
  (iter (R101L0 A x1 x2 x3 x4) 0).bind (Sum.elim (fun _ =>
    (ap A x1 [(.agg [(.int .i64 x2), (.int .i64 x3), (.int .i64 x4)])]).bind fun l23 =>
    some l23) (fun _ =>
    some x1))

noncomputable def R54L0 (A : Ar) (x2 : List D) (x3 : Int) : (List D × Int) → Option ((List D × Int) ⊕ (List D)) := fun (v22, v23) =>
  bif (A.zlt v23 (A.len x2)) then
    (gt A (cG (lc (cI .i64) (lc (cI .i64) (l1 (cI .i64))))) x2 v23).bind fun (a25, a26, a27) =>
    (
      bif (A.zeq a26 x3) then
        some 0
      else
        some a26).bind fun v32 =>
    (R101 A v22 a25 v32 a27).bind fun r35 =>
    some (.inl (r35, (A.wrp .i64 (A.zadd v23 1))))
  else
    some (.inr v22)

/-- lineal linealref05.Hidden -/
noncomputable def R54 (A : Ar) (x1 : Int) (x2 : List D) (x3 : Int) : Option (Int × List D × Int) :=
  (R34 A x1 x2).bind fun r5 =>
  bif r5 then
    (R63 A x3).bind fun r8 =>
    bif r8 then
      (iter (R54L0 A x2 x3) ([], 0)).bind (fun v36 =>
      some (x1, v36, 0))
    else
      some (0, [], 2)
  else
    some (0, [], 50)

/-- lineal linealref05.Without -/
noncomputable def R55 (A : Ar) (x1 : Int) (x2 : List D) (x3 : Int) : Option (Int × List D × Int) :=
  (R34 A x1 x2).bind fun r5 =>
  bif r5 then
    (
      bif (A.zlt x3 0) then
        some true
      else
        some (A.zle (A.len x2) x3)).bind fun v8 =>
    bif v8 then
      some (0, [], 2)
    else
      (sl A x2 0 x3).bind fun l11 =>
      (ap A [] l11).bind fun l17 =>
      (sl A x2 (A.wrp .i64 (A.zadd x3 1)) (A.len x2)).bind fun l21 =>
      (ap A l17 l21).bind fun l27 =>
      some (x1, l27, 0)
  else
    some (0, [], 50)

noncomputable def R105L0 (A : Ar) (x2 : List D) (x3 : Int) (x4 : Int) (x5 : Int) : Int → Option ((Int) ⊕ ((Unit) ⊕ (Unit))) := fun v18 =>
  bif (A.zlt v18 (A.len x2)) then
    (gt A (cG (lc (cI .i64) (lc (cI .i64) (l1 (cI .i64))))) x2 v18).bind fun (a20, a21, a22) =>
    (
      bif (A.zeq a20 x3) then
        bif (A.zeq a21 x4) then
          some (A.zeq a22 x5)
        else
          some false
      else
        some false).bind fun v28 =>
    bif v28 then
      some (.inr (.inr ()))
    else
      some (.inl (A.wrp .i64 (A.zadd v18 1)))
  else
    some (.inr (.inl ()))

/-- lineal linealref05.has -/
noncomputable def R105 (A : Ar) (x1 : Int) (x2 : List D) (x3 : Int) (x4 : Int) (x5 : Int) : Option (Bool) :=
  (iter (R105L0 A x2 x3 x4 x5) 0).bind (Sum.elim (fun _ =>
    some false) (fun _ =>
    some true))

noncomputable def R57L0 (A : Ar) (x1 : Int) (x2 : List D) (x3 : Int) (x4 : List D) (v206 : Int) (v300 : Int) : (List D × Int) → Option ((List D × Int) ⊕ (List D)) := fun (v347, v348) =>
  bif (A.zlt v348 (A.wrp .i64 (A.zmul x1 x3))) then
    (nk (A.zeq x3 0)).bind fun _ =>
    (nk (A.zeq x3 0)).bind fun _ =>
    (R105 A x1 x2 (A.quo .i64 v206 x3) v300 (A.quo .i64 v348 x3)).bind fun r355 =>
    (nk (A.zeq x3 0)).bind fun _ =>
    (nk (A.zeq x3 0)).bind fun _ =>
    (R105 A x3 x4 (A.rem v206 x3) v300 (A.rem v348 x3)).bind fun r361 =>
    (
      bif r355 then
        some (true, r361)
      else
        some (false, false)).bind fun (v363, v364) =>
    (
      bif (A.zeq v300 0) then
        (
          bif v363 then
            (nk (A.zeq x3 0)).bind fun _ =>
            (nk (A.zeq x3 0)).bind fun _ =>
            bif (A.zeq (A.rem v206 x3) (A.rem v348 x3)) then
              some true
            else
              bif r361 then
                (nk (A.zeq x3 0)).bind fun _ =>
                (nk (A.zeq x3 0)).bind fun _ =>
                some (A.zeq (A.quo .i64 v206 x3) (A.quo .i64 v348 x3))
              else
                some false
          else
            bif r361 then
              (nk (A.zeq x3 0)).bind fun _ =>
              (nk (A.zeq x3 0)).bind fun _ =>
              some (A.zeq (A.quo .i64 v206 x3) (A.quo .i64 v348 x3))
            else
              some false).bind fun v383 =>
        some v383
      else
        some v364).bind fun v385 =>
    (
      bif v385 then
        (ap A v347 [(.agg [(.int .i64 v206), (.int .i64 v300), (.int .i64 v348)])]).bind fun l388 =>
        some l388
      else
        some v347).bind fun v392 =>
    some (.inl (v392, (A.wrp .i64 (A.zadd v348 1))))
  else
    some (.inr v347)

noncomputable def R57L1 (A : Ar) (x1 : Int) (x2 : List D) (x3 : Int) (x4 : List D) (v206 : Int) : (List D × Int) → Option ((List D × Int) ⊕ (List D)) := fun (v299, v300) =>
  bif (A.zlt v300 4) then
    (iter (R57L0 A x1 x2 x3 x4 v206 v300) (v299, 0)).bind (fun v394 =>
    some (.inl (v394, (A.wrp .i64 (A.zadd v300 1)))))
  else
    some (.inr v299)

noncomputable def R57L2 (A : Ar) (x1 : Int) (x2 : List D) (x3 : Int) (x4 : List D) : (List D × Int) → Option ((List D × Int) ⊕ (List D)) := fun (v205, v206) =>
  bif (A.zlt v206 (A.wrp .i64 (A.zmul x1 x3))) then
    (iter (R57L1 A x1 x2 x3 x4 v206) (v205, 0)).bind (fun v396 =>
    some (.inl (v396, (A.wrp .i64 (A.zadd v206 1)))))
  else
    some (.inr v205)

/-- lineal linealref05.Both -/
noncomputable def R57 (A : Ar) (x1 : Int) (x2 : List D) (x3 : Int) (x4 : List D) : Option (Int × List D × Int) :=
  (
    (R34 A x1 x2).bind fun r6 =>
    bif r6 then
      (R34 A x3 x4).bind fun r9 =>
      some (!r9)
    else
      some true).bind fun v10 =>
  bif v10 then
    some (0, [], 50)
  else
    bif (A.zlt 6 (A.wrp .i64 (A.zmul x1 x3))) then
      some (0, [], 4)
    else
      (iter (R57L2 A x1 x2 x3 x4) ([], 0)).bind (fun v398 =>
      bif (A.zlt 24 (A.len v398)) then
        some (0, [], 4)
      else
        some ((A.wrp .i64 (A.zmul x1 x3)), v398, 0))

/-- lineal lineallaw05.RefineOthers -/
noncomputable def R14 (A : Ar) (x1 : Int) (x2 : List D) (x3 : Int) (x4 : List D) (x5 : Int) (x6 : Int) : Option (Bool) :=
  (
    (R16 A x1 x2).bind fun r8 =>
    bif r8 then
      some true
    else
      (R16 A x3 x4).bind fun r11 =>
      some r11).bind fun v12 =>
  bif v12 then
    (R17 A).bind fun r16 =>
    some r16
  else
    (R43 A x1 x2 x5).bind fun (r18, r19, r20) =>
    (R54 A x1 x2 x5).bind fun (r22, r23, r24) =>
    (
      (R30 A r18 r19 r22 r23).bind fun r26 =>
      bif r26 then
        some (!(A.zeq r20 r24))
      else
        some true).bind fun v28 =>
    bif v28 then
      some false
    else
      (R45 A x1 x2 x6).bind fun (r32, r33, r34) =>
      (R55 A x1 x2 x6).bind fun (r36, r37, r38) =>
      (
        (R30 A r32 r33 r36 r37).bind fun r40 =>
        bif r40 then
          some (!(A.zeq r34 r38))
        else
          some true).bind fun v42 =>
      bif v42 then
        some false
      else
        (R56 A x1 x2 x3 x4).bind fun (r46, r47, r48) =>
        (R57 A x1 x2 x3 x4).bind fun (r50, r51, r52) =>
        (
          (R30 A r46 r47 r50 r51).bind fun r54 =>
          bif r54 then
            bif (A.zeq r48 r52) then
              (R17 A).bind fun r58 =>
              some r58
            else
              some false
          else
            some false).bind fun v59 =>
        some v59
end Go.Am
