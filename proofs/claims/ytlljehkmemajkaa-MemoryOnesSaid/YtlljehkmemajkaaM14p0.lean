/- Own text: M14p0. -/
import Derived.Test.YtlljehkmemajkaaAmKeys
import Derived.Test.YtlljehkmemajkaaGenp0
set_option maxRecDepth 100000
set_option maxHeartbeats 2000000
set_option linter.unusedVariables false
set_option linter.unusedSimpArgs false
namespace Go.Am
open Go
noncomputable def M94 (A:Ar) (x1:List (D×D)) (x2:List (D×D)):Option (Unit) :=
 some ()
def M93 (A:Ar) (x1:List (D×D)) (x2:List (D×D)):Option (List D):=keysF x2
noncomputable def M92 (A:Ar) (x1:Int):Option (Bool) :=
 some (A.zeq (A.bits .and .u64 x1 (A.wrp .u64 (A.zsub x1 1))) 0)
noncomputable def M51L0 (A:Ar) (v104:Int) (a108:List D):(Int×List (D×D)×List (D×D))->Option ((Int×List (D×D)×List (D×D))⊕(List (D×D)×List (D×D))):=fun (v156,v157,v158) =>
 bif (A.zlt v156 (A.len a108)) then
  (gt A (cG (lc (cI .i64) (lc (cI .i64) (l1 (cI .i64))))) a108 v156).bind fun (a160,a161,a162) =>
  ((
   bif (A.zeq a160 2) then
    ((
     (lk A (cI .u64) v158 (.int .i64 a161)).bind fun o170=>o170.elim (
      (nk (A.zlt v104 0)).bind fun _ =>
      some (A.mput v158 (.int .i64 a161) (.int .u64 (A.bits .or .u64 0 (A.shl .u64 1 v104))))) fun a167 =>
     (nk (A.zlt v104 0)).bind fun _ =>
     some (A.mput v158 (.int .i64 a161) (.int .u64 (A.bits .or .u64 a167 (A.shl .u64 1 v104)))):Option (List (D×D)))).bind fun v175 =>
    ((
     (lk A (cI .u64) v157 (.int .i64 a161)).bind fun o180=>o180.elim (
      (nk (A.zlt v104 0)).bind fun _ =>
      some (A.mput v157 (.int .i64 a161) (.int .u64 (A.bits .or .u64 0 (A.shl .u64 1 v104))))) fun a177 =>
     (nk (A.zlt v104 0)).bind fun _ =>
     some (A.mput v157 (.int .i64 a161) (.int .u64 (A.bits .or .u64 a177 (A.shl .u64 1 v104)))):Option (List (D×D)))).bind fun v185 =>
    some (v185,v175)
   else
    ((
     bif (A.zeq a160 1) then
      ((
       (lk A (cI .u64) v157 (.int .i64 a161)).bind fun o191=>o191.elim (
        (nk (A.zlt v104 0)).bind fun _ =>
        some (A.mput v157 (.int .i64 a161) (.int .u64 (A.bits .or .u64 0 (A.shl .u64 1 v104))))) fun a188 =>
       (nk (A.zlt v104 0)).bind fun _ =>
       some (A.mput v157 (.int .i64 a161) (.int .u64 (A.bits .or .u64 a188 (A.shl .u64 1 v104)))):Option (List (D×D)))).bind fun v196 =>
      some v196
     else
      some v157:Option (List (D×D)))).bind fun v198 =>
    some (v198,v158):Option (List (D×D)×List (D×D)))).bind fun (v200,v201) =>
  some (.inl ((A.wrp .i64 (A.zadd v156 1)),v200,v201))
 else
  some (.inr (v157,v158))
noncomputable def M51L1 (A:Ar) (x1:List D):(Int×List (D×D)×List (D×D))->Option ((Int×List (D×D)×List (D×D))⊕(List (D×D)×List (D×D))):=fun (v104,v105,v106) =>
 bif (A.zlt v104 (A.len x1)) then
  (gt A (cL 3) x1 v104).bind fun a108 =>
  (iter (M51L0 A v104 a108) (0,v105,v106)).bind (fun (v203,v204) =>
  some (.inl ((A.wrp .i64 (A.zadd v104 1)),v203,v204)))
 else
  some (.inr (v105,v106))
noncomputable def M51L2 (A:Ar) (v206:List (D×D)) (r211:List D):Int->Option ((Int)⊕((Unit)⊕(Unit))):=fun v228 =>
 bif (A.zlt v228 (A.len r211)) then
  (gt A (cI .i64) r211 v228).bind fun a230 =>
  ((
   (lk A (cI .u64) v206 (.int .i64 a230)).bind fun o237=>o237.elim (
    (M92 A 0).bind fun r239 =>
    some (!r239)) fun a234 =>
   (M92 A a234).bind fun r241 =>
   some (!r241):Option (Bool))).bind fun v242 =>
  bif v242 then
   some (.inr (.inr ()))
  else
   some (.inl (A.wrp .i64 (A.zadd v228 1)))
 else
  some (.inr (.inl ()))
noncomputable def M51 (A:Ar) (x1:List D):Option (Bool×Int) :=
 (M23 A x1).bind fun r3 =>
 bif r3 then
  (iter (M51L1 A x1) (0,[],[])).bind (fun (v206,v207) =>
  (M94 A v206 v207).bind fun () =>
  (M93 A v206 v207).bind fun r211 =>
  (iter (M51L2 A v206 r211) 0).bind (Sum.elim (fun _ =>
   some (false,0)) (fun _ =>
   some (true,0))))
 else
  some (false,40)
noncomputable def M25L0 (A:Ar) (x1:List D) (x2:List D):Int->Option ((Int)⊕((Unit)⊕(Unit))):=fun v16 =>
 bif (A.zlt v16 (A.len x1)) then
  (gt A (cL 1) x1 v16).bind fun a18 =>
  (gt A (cL 1) x2 v16).bind fun a22 =>
  (M30 A a18 a22).bind fun r27 =>
  bif (A.zeq r27 0) then
   some (.inl (A.wrp .i64 (A.zadd v16 1)))
  else
   some (.inr (.inr ()))
 else
  some (.inr (.inl ()))
noncomputable def M25 (A:Ar) (x1:List D) (x2:List D):Option (Bool) :=
 bif (A.zeq (A.len x1) (A.len x2)) then
  (iter (M25L0 A x1 x2) 0).bind (Sum.elim (fun _ =>
   some true) (fun _ =>
   some false))
 else
  some false
noncomputable def M14 (A:Ar) (x1:List D):Option (Bool) :=
 ((
  (M17 A x1).bind fun r3 =>
  bif r3 then
   some true
  else
   (M24 A x1).bind fun r6 =>
   some (!r6):Option (Bool))).bind fun v7 =>
 bif v7 then
  (M18 A).bind fun r11 =>
  some r11
 else
  (M51 A x1).bind fun (r13,r14) =>
  bif (A.zeq r14 0) then
   ((
    bif r13 then
     (sl A x1 0 1).bind fun l17 =>
     some l17
    else
     some x1:Option (List D))).bind fun v23 =>
   (M19 A v23 1).bind fun (r26,r27) =>
   (M19 A v23 2).bind fun (r29,r30) =>
   (M19 A v23 3).bind fun (r32,r33) =>
   ((
    bif (A.zeq r27 0) then
     bif (A.zeq r30 0) then
      bif (A.zeq r33 0) then
       bif (A.zeq (A.len r26) 1) then
        (M25 A r26 r29).bind fun r39 =>
        bif r39 then
         (M25 A r29 r32).bind fun r42 =>
         bif r42 then
          (M18 A).bind fun r45 =>
          some r45
         else
          some false
        else
         some false
       else
        some false
      else
       some false
     else
      some false
    else
     some false:Option (Bool))).bind fun v46 =>
   some v46
  else
   some false
end Go.Am
