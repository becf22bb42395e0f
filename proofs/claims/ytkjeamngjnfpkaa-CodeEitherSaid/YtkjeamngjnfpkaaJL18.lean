/- Own text: JL18. -/
import Derived.Test.YtkjeamngjnfpkaaJL21
import Derived.Test.YtkjeamngjnfpkaaJH9
set_option maxRecDepth 100000
set_option maxHeartbeats 2000000
set_option linter.unusedVariables false
set_option linter.unusedSimpArgs false
set_option linter.unusedSectionVars false
namespace Go.Am
open Go
section
variable {c:Code} (hc:CodeOk c) {mks:List Int} (hl:mks.length<Lg)
include hc hl
end
section
variable {c:Code} (hc:CodeOk c) {u:Tab} (hut:TabOk u) {sch:List Int} (hl:sch.length<Lg) {mks:List Int} (hlm:mks.length<Lg)
include hc hut hl hlm
theorem done_facts (hmk:MkOk c mks) (hv:vCode c=true) (hu:vUse c u=true):MInv c u (doneS c u sch mks).1/\(doneS c u sch mks).1.st<=12/\(doneS c u sch mks).1.ms.length=(doneS c u sch mks).1.h.length/\(doneS c u sch mks).1.h.length<=12:=by
 have hI:MInv c u (doneS c u sch mks).1/\(doneS c u sch mks).1.st<=12:=by
  unfold doneS
  by_cases h:12<sch.length
  ·rw [decide_eq_true h];exact ⟨minv0 c u,by simp [mc0]⟩
  ·rw [decide_eq_false h]
   refine ⟨runS_inv mks hmk hv hu sch mc0 (minv0 c u),?_⟩
   have:=runS_len c u mks sch mc0 (minv0 c u) hmk hv hu
   have e:mc0.st=0:=rfl
   show (runS c u mks sch mc0).1.st<=12
   omega
 refine ⟨hI.1,hI.2,hI.1.ms,?_⟩
 have:=hI.1.st
 omega
end
def linB (s:Spec) (h:List Call):Bool:=decide (errH [s] h=0) && !(ords0 [s] h).isEmpty
def breakR (s:Spec) (c:Code) (u:Tab) (sch:List Int):Bool×Int :=
 bif decide (specE s c u=0) then (bif (doneS c u sch []).2 then (!linB s (doneS c u sch []).1.h,0) else (false,2)) else (false,specE s c u)
theorem specE_0 {s:Spec} {c:Code} {u:Tab} (h:specE s c u=0):codeE c u=0:=by
 unfold specE at h;unfold codeE
 cases hv:vCode c with
 | false=>rw [hv] at h;simp at h
 | true =>
   rw [hv] at h
   cases hs:specOk s&&decide (s.2.1=(c.length:Int)) with
   | false=>rw [hs] at h;simp at h
   | true=>rw [hs] at h;exact h
section
variable {s:Spec} (hs:TabOk s.2.2.1/\TabOk s.2.2.2)
include hs
theorem specs1:SpecsOk [s]:=⟨by show 1<9223372036854775808;decide,fun x hx=>by rw [List.mem_singleton] at hx;subst hx;exact hs⟩
theorem K87_eq (h:List Call) (hl:h.length<Lg):K87 Ar.std s.1 s.2.1 (eTab s.2.2.1) (eTab s.2.2.2) (eCalls h)=some (linB s h):=by
 unfold K87
 have e:=K35_eq [s] h (specs1 hs) hl
 refine bt e (bt (v:=linB s h) ?_ rfl)
 unfold linB
 by_cases he:errH [s] h=0
 ·exact cnT (by simp [he]) rfl
 ·rw [decide_eq_false he,Bool.false_and]
  exact cnF (by simp [he]) rfl
section
variable {c:Code} (hc:CodeOk c) {u:Tab} (hut:TabOk u) {sch:List Int} (hl:sch.length<Lg)
include hc hut hl
theorem done_h:(doneS c u sch []).1.h.length<Lg\/codeE c u≠0:=by
 by_cases he:codeE c u=0
 ·obtain ⟨hv,hu⟩:=codeE_ok he
  have:=done_facts hc hut hl (mks:=[]) (by decide) (.inl rfl) hv hu
  exact .inl (Nat.lt_of_le_of_lt this.2.2.2 (by decide))
 ·exact .inr he
theorem K34_eq:K34 Ar.std s.1 s.2.1 (eTab s.2.2.1) (eTab s.2.2.2) (eCode c) (eTab u) (eInts sch)=some (breakR s c u sch):=by
 unfold K34 breakR
 refine bt (K68_eq s hs c hc u hut) ?_
 by_cases he:specE s c u=0
 ·have he2:=specE_0 he
  have hlen:=(done_h hs hc hut hl).resolve_right (fun h=>h he2)
  rw [decide_eq_true he,cond_true]
  refine cnT (by simp [he]) (bt (K13_eq hc hut hl) ?_)
  unfold runOf
  rw [decide_eq_true he2,cond_true]
  cases (doneS c u sch []).2 with
  | false=>rfl
  | true=>exact bt (v := !linB s (doneS c u sch []).1.h) (cnT rfl (bt (K87_eq hs _ hlen) rfl)) rfl
 ·rw [decide_eq_false he,cond_false]
  exact cnF (by simp [he]) rfl
end
end
end Go.Am

set_option maxHeartbeats 1000000
namespace Go.Am
open Go
def isCaseB (s:Spec) (c:Code) (u:Tab):Bool := !largeX s c u&&(vCode c&&(specOk s&&(decide (s.2.1=(c.length:Int))&&vUse c u)))
theorem K23_eq (s:Spec) (hs:TabOk s.2.2.1/\TabOk s.2.2.2) (c:Code) (hc:CodeOk c) (u:Tab) (hu:TabOk u):K23 Ar.std s.1 s.2.1 (eTab s.2.2.1) (eTab s.2.2.2) (eCode c) (eTab u)=some (isCaseB s c u):=by
 unfold K23 isCaseB
 refine bt (bt (K9_eq s hs c hc u hu) ?_) rfl
 cases largeX s c u with
 | true=>rfl
 | false =>
   refine cnF rfl (bt (K16_eq c hc) ?_)
   cases vCode c with
   | false=>rfl
   | true =>
     refine cnT rfl (bt (K58_eq s hs.1 hs.2) ?_)
     cases specOk s with
     | false=>rfl
     | true =>
       refine cnT rfl ?_
       rw [len_eCode]
       cases hd:decide (s.2.1=(c.length:Int)) with
       | false=>exact cnF hd rfl
       | true=>exact cnT hd (bt (K43_eq c hc u hu) rfl)
section
variable {c:Code} (hc:CodeOk c) {u:Tab} (hu':TabOk u) (hv:vCode c=true) (hu:vUse c u=true)
include hc hu' hv hu
omit hc hu' in
theorem runOf_ok {α:Type} (sch:List Int) (hl:sch.length<=12) (hd:(runS c u [] sch mc0).2=true) (f:Mc->α) (no:α):runOf c u sch f no=(f (runS c u [] sch mc0).1,0):=by
 have e:codeE c u=0:=by unfold codeE;rw [hv,hu];rfl
 have e2:doneS c u sch []=runS c u [] sch mc0:=by unfold doneS;rw [decide_eq_false (by omega)];rfl
 unfold runOf
 rw [e,e2,hd];rfl
omit hc hu' hv hu in
theorem leftM_has {m:Mc} {p:Int} (h:p∈leftM u m):hasM u p m=true:=by
 unfold leftM at h
 rw [List.mem_map] at h
 obtain ⟨t,ht,rfl⟩:=h
 exact (List.mem_filter.1 ht).2
end
end Go.Am
