/- Own text: ZL18. -/
import Derived.Test.YtkjeamngjnfpkaaGreatZL21
import Derived.Test.YtkjeamngjnfpkaaGreatZH9
set_option maxRecDepth 100000
set_option maxHeartbeats 2000000
set_option linter.unusedVariables false
set_option linter.unusedSimpArgs false
set_option linter.unusedSectionVars false
namespace Go.Am
open Go
section
variable {c:Code} (hc:CodeOk c) {mks:List Int} (hl:mks.length<Lg)
include hc hl
end
section
variable {c:Code} (hc:CodeOk c) {u:Tab} (hut:TabOk u) {sch:List Int} (hl:sch.length<Lg) {mks:List Int} (hlm:mks.length<Lg)
include hc hut hl hlm
end
def linB (s:Spec) (h:List Call):Bool:=decide (errH [s] h=0) && !(ords0 [s] h).isEmpty
theorem specE_0 {s:Spec} {c:Code} {u:Tab} (h:specE s c u=0):codeE c u=0:=by
 unfold specE at h;unfold codeE
 cases hv:vCode c with
 | false=>rw [hv] at h;simp at h
 | true =>
   rw [hv] at h
   cases hs:specOk s&&decide (s.2.1=(c.length:Int)) with
   | false=>rw [hs] at h;simp at h
   | true=>rw [hs] at h;exact h
section
variable {s:Spec} (hs:TabOk s.2.2.1/\TabOk s.2.2.2)
include hs
theorem specs1:SpecsOk [s]:=⟨by show 1<9223372036854775808;decide,fun x hx=>by rw [List.mem_singleton] at hx;subst hx;exact hs⟩
theorem Z38_eq (h:List Call) (hl:h.length<Lg):Z38 Ar.std s.1 s.2.1 (eTab s.2.2.1) (eTab s.2.2.2) (eCalls h)=some (linB s h):=by
 unfold Z38
 have e:=Z85_eq [s] h (specs1 hs) hl
 refine bt e (bt (v:=linB s h) ?_ rfl)
 unfold linB
 by_cases he:errH [s] h=0
 ·exact cnT (by simp [he]) rfl
 ·rw [decide_eq_false he,Bool.false_and]
  exact cnF (by simp [he]) rfl
theorem Z63_eq (h:List Call) (hl:h.length<Lg):Z63 Ar.std s.1 s.2.1 (eTab s.2.2.1) (eTab s.2.2.2) (eCalls h)=some (linB s h):=by
 unfold Z63
 exact bt (Z14_eq [s] h (specs1 hs) hl) rfl
theorem Z60_eq (c:Code) (hc:CodeOk c) (u:Tab) (hu:TabOk u):Z60 Ar.std s.1 s.2.1 (eTab s.2.2.1) (eTab s.2.2.2) (eCode c) (eTab u)=some (specE s c u):=by
 unfold Z60 specE
 refine bt (v:=vCode c && !(specOk s&&decide (s.2.1=(c.length:Int)))) (bt (Z30_eq c hc) ?_) ?_
 ·cases vCode c with
  | false=>rfl
  | true=>exact cnT rfl (bt (Z100_eq s hs c) rfl)
 ·cases hv:vCode c with
  | false=>exact cnF rfl (bt (Z67_eq c hc u hu) (by unfold codeE;rw [hv];rfl))
  | true =>
    cases specOk s&&decide (s.2.1=(c.length:Int)) with
    | false=>rfl
    | true=>exact cnF rfl (bt (Z67_eq c hc u hu) (by unfold codeE;rw [hv];rfl))
section
variable {c:Code} (hc:CodeOk c) {u:Tab} (hut:TabOk u) {sch:List Int} (hl:sch.length<Lg)
include hc hut hl
end
end
end Go.Am

set_option maxHeartbeats 1000000
namespace Go.Am
open Go
section
variable {c:Code} (hc:CodeOk c) {u:Tab} (hu':TabOk u) (hv:vCode c=true) (hu:vUse c u=true)
include hc hu' hv hu
omit hc hu' hv hu in
theorem leftM_has {m:Mc} {p:Int} (h:p∈leftM u m):hasM u p m=true:=by
 unfold leftM at h
 rw [List.mem_map] at h
 obtain ⟨t,ht,rfl⟩:=h
 exact (List.mem_filter.1 ht).2
end
end Go.Am
