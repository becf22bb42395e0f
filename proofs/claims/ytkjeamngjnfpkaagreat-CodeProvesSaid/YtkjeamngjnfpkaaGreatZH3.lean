/- Own text: ZH3. -/
import Derived.Test.YtkjeamngjnfpkaaGreatZL21
set_option maxRecDepth 100000
set_option linter.unusedVariables false
set_option linter.unusedSimpArgs false
namespace Go.Am
open Go
namespace Call
end Call
end Go.Am
namespace Go.Am
section
variable (a b:Int) (t u:List D) (lim:Int)
end
theorem Z149_eq (l:List Spec) (hl:SpecsOk l):Z149 Ar.std (eSpecs l)=some (btw 1 l.length 2&&l.all specOk):=by
 have e:iter (Z198L0 Ar.std (eSpecs l)) 0=some ((l.findIdx? fun s => !specOk s).elim (.inl ()) (fun i => .inr (i:Int))):=by
  refine iter_find l _ _ _ (fun i s hn hi => ?_) ?_
  ·have h:=hl.2 s (List.mem_of_getElem? hn)
   simp [Z198L0,Z183,Z81_eq s h.1 h.2,gt_eSpecs hn,hi,wrap1 hi hl.1]
  ·simp [Z198L0]
 simp only [Z149,Z152_eq,Z182,Z198,e,bsome,find_elim,std_zle,find_le,len_eSpecs,cond_some]
 cases btw 1 l.length 2 <;> simp [any_notB]
end Go.Am

set_option maxRecDepth 100000
set_option linter.unusedVariables false
set_option linter.unusedSimpArgs false
namespace Go.Am
open Go
end Go.Am
namespace Go.Am
end Go.Am

set_option maxRecDepth 100000
set_option linter.unusedVariables false
set_option linter.unusedSimpArgs false
namespace Go.Am
open Go
def areS (l:List Spec):Bool:=btw 1 l.length 2&&l.all specOk
def fitC (l:List Spec) (c:Call):Bool:=(l[c.ob.toNat]?.map fun s=>decide (c.op<s.2.1)).getD false
def forH (l:List Spec) (h:List Call):Bool:=validH h&&h.all (fitC l)
def errH (l:List Spec) (h:List Call):Int:=bif areS l then (bif forH l h then 0 else 20) else 10
theorem Z185_eq (l:List Spec) (c:Call) (hc:0≤c.ob):Z185 Ar.std c.1 c.2.1 c.2.2.1 c.2.2.2.1 c.2.2.2.2.1 c.2.2.2.2.2 (eSpecs l)=some (!fitC l c):=by
 simp only [Z185,std_zle,len_eSpecs,fitC]
 by_cases h:(l.length:Int)≤c.2.1
 ·have:l[c.2.1.toNat]?=none:=by rw [List.getElem?_eq_none_iff];omega
  simp [h,Call.ob,this]
 ·have hlt:c.2.1.toNat<l.length:=by simp only [Call.ob] at hc;omega
  have hg:=List.getElem?_eq_getElem hlt
  simp only [h,decide_false,cond_false,gt_eSpecsI hc hg,bsome,Call.ob,hg,Option.map_some,Option.getD_some,Call.op]
  congr 1
  rw [Bool.eq_iff_iff];simp
theorem Z151_eq (l:List Spec) (h:List Call) (hl:h.length<Lg) (hc : ∀ c∈h,0≤c.ob):Z151 Ar.std (eSpecs l) (eCalls h)=some (h.all (fitC l)):=by
 have e:iter (Z190aL0 Ar.std (eCalls h) (eSpecs l)) 0=some ((h.findIdx? fun c => !fitC l c).elim (.inl ()) (fun i => .inr (i:Int))):=by
  refine iter_find h _ _ _ (fun i c hn hi => ?_) ?_
  ·simp [Z190aL0,Z185_eq l c (hc c (List.mem_of_getElem? hn)),gt_enc hn,hi,wrap1 hi hl]
  ·simp [Z190aL0]
 simp only [Z151,Z160a,Z190a,e,bsome,find_elim,std_zle,find_le,any_notB,Bool.not_not]
theorem Z106_eq (l:List Spec) (h:List Call) (hs:SpecsOk l) (hl:h.length<Lg):Z106 Ar.std (eSpecs l) (eCalls h)=some (bif areS l then (forH l h,0) else (false,10)):=by
 simp only [Z106,Z149_eq l hs,bsome,Z150_eq h hl,areS,forH]
 cases hv:validH h with
 | false=>simp
 | true =>
   have:=Z151_eq l h hl (fun c hc=>by have:=(callOk_iff c).1 ((validH_ok hv).2 c hc);omega)
   simp [this]
theorem Z72_eq (l:List Spec) (h:List Call) (hs:SpecsOk l) (hl:h.length<Lg):Z72 Ar.std (eSpecs l) (eCalls h)=some (errH l h):=by
 simp only [Z72,Z106_eq l h hs hl,bsome,errH]
 cases areS l <;> cases forH l h <;> simp
theorem Z107_eq (h:List Call) (hl:h.length<Lg) (i:Int):Z107 Ar.std (eCalls h) i=some (btw 0 i ((h.length:Int)-1)):=by
 have:(h.length:Int)<9223372036854775808:=by have:h.length<9223372036854775808:=hl;omega
 simp only [Z107,Z152_eq,bsome,len_enc,std_wrp,std_zsub,wrapS (x:=(h.length:Int)) (by omega) this]
end Go.Am
