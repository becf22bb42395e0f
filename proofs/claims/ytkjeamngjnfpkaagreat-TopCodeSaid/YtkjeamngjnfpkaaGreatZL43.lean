import Derived.Test.YtkjeamngjnfpkaaGreatZL42
import Derived.Test.YtkjeamngjnfpkaaGreatZH20
set_option maxRecDepth 100000
set_option maxHeartbeats 2000000
set_option linter.unusedVariables false
set_option linter.unusedSimpArgs false
set_option linter.unusedSectionVars false
namespace Go.Am
open Go
theorem a5i {c:Code} {u:Tab} {mks:List Int} : ∀ (k:Nat) (m:Mc) (sch:List Int),∀ e∈a1j c u mks k m sch,
  ∃ r,e.2=sch++r/\r.length<=k/\a1a c u mks r m=(e.1,true)
 | 0,m,sch,e,he=>by
   unfold a1j at he;rw [List.mem_singleton] at he;subst he;exact ⟨[],by simp,Nat.le_refl _,rfl⟩
 | k+1,m,sch,e,he=>by
   unfold a1j at he;cases ho:a0S u m with
   | true =>
     rw [ho,cond_true,List.mem_singleton] at he;subst he;exact ⟨[],by simp,Nat.zero_le _,rfl⟩
   | false =>
     rw [ho,cond_false] at he;obtain ⟨t,h1,h2⟩:=List.mem_flatMap.1 he;obtain ⟨r,e1,e2,e3⟩:=a5i k _ _ e h2;refine ⟨t::r,by rw [e1];simp,by simp;omega,?_⟩;unfold a1a;rw [a2N h1];exact e3
theorem b0N {s:Spec} {L:List MS} (h:a1i s L=none) : ∀ e∈L,a7c s e.1.h=true:=by
 intro e he;have:=List.find?_eq_none.1 h e he;simpa using this
theorem b2D {s:Spec} {L:List MS} (h : ∀ e∈L,a7c s e.1.h=true):a1i s L=none :=
 List.find?_eq_none.2 fun e he=>by rw [h e he];simp
section
variable {s:Spec} {c:Code} {u:Tab} (hv:a1e c=true) (hu:a3E c u=true) (hk:a0P s=true) (ho:s.2.1=(c.length:Int))
include hv hu
theorem c1U (sch:List Int) (hl:sch.length<=12):MInv c u (a1a c u [] sch mc0).1/\TInv c u (a1a c u [] sch mc0).1/\(a1a c u [] sch mc0).1.st<=12:=by
 obtain ⟨a,b,_,_⟩:=a8E (mks:=[]) (.inl rfl) hv hu sch mc0 (a7v c u) (b4u c u) c4G c5p;refine ⟨a,b,?_⟩;have:=a8v c u [] sch mc0 (a7v c u) (.inl rfl) hv hu;have h0:mc0.st=0:=rfl;omega
include hk ho
end
end Go.Am
