/- Own text: JH3. -/
import Derived.Test.YtkjeamngjnfpkaaJL21
set_option maxRecDepth 100000
set_option linter.unusedVariables false
set_option linter.unusedSimpArgs false
namespace Go.Am
open Go
namespace Call
end Call
end Go.Am
namespace Go.Am
section
variable (a b:Int) (t u:List D) (lim:Int)
end
theorem K168_eq (l:List Spec) (hl:SpecsOk l):K168 Ar.std (eSpecs l)=some (btw 1 l.length 2&&l.all specOk):=by
 have e:iter (K182L0 Ar.std (eSpecs l)) 0=some ((l.findIdx? fun s => !specOk s).elim (.inl ()) (fun i => .inr (i:Int))):=by
  refine iter_find l _ _ _ (fun i s hn hi => ?_) ?_
  ·have h:=hl.2 s (List.mem_of_getElem? hn)
   simp [K182L0,K179,K115_eq s h.1 h.2,gt_eSpecs hn,hi,wrap1 hi hl.1]
  ·simp [K182L0]
 simp only [K168,K61_eq,K178,K182,e,bsome,find_elim,std_zle,find_le,len_eSpecs,cond_some]
 cases btw 1 l.length 2 <;> simp [any_notB]
end Go.Am

namespace Go.Am
open Go
end Go.Am
namespace Go.Am
end Go.Am

namespace Go.Am
open Go
def areS (l:List Spec):Bool:=btw 1 l.length 2&&l.all specOk
def fitC (l:List Spec) (c:Call):Bool:=(l[c.ob.toNat]?.map fun s=>decide (c.op<s.2.1)).getD false
def forH (l:List Spec) (h:List Call):Bool:=validH h&&h.all (fitC l)
def errH (l:List Spec) (h:List Call):Int:=bif areS l then (bif forH l h then 0 else 20) else 10
theorem K180_eq (l:List Spec) (c:Call) (hc:0<=c.ob):K180 Ar.std c.1 c.2.1 c.2.2.1 c.2.2.2.1 c.2.2.2.2.1 c.2.2.2.2.2 (eSpecs l)=some (!fitC l c):=by
 simp only [K180,std_zle,len_eSpecs,fitC]
 by_cases h:(l.length:Int)<=c.2.1
 ·have:l[c.2.1.toNat]?=none:=by rw [List.getElem?_eq_none_iff];omega
  simp [h,Call.ob,this]
 ·have hlt:c.2.1.toNat<l.length:=by simp only [Call.ob] at hc;omega
  have hg:=zp1 hlt
  simp only [h,decide_false,cond_false,gt_eSpecsI hc hg,bsome,Call.ob,hg,Option.map_some,Option.getD_some,Call.op]
  congr 1
  rw [Bool.eq_iff_iff];simp
theorem K169_eq (l:List Spec) (h:List Call) (hl:h.length<Lg) (hc : ∀ c∈h,0<=c.ob):K169 Ar.std (eSpecs l) (eCalls h)=some (h.all (fitC l)):=by
 have e:iter (K166aL0 Ar.std (eCalls h) (eSpecs l)) 0=some ((h.findIdx? fun c => !fitC l c).elim (.inl ()) (fun i => .inr (i:Int))):=by
  refine iter_find h _ _ _ (fun i c hn hi => ?_) ?_
  ·simp [K166aL0,K180_eq l c (hc c (List.mem_of_getElem? hn)),gt_enc hn,hi,wrap1 hi hl]
  ·simp [K166aL0]
 simp only [K169,K142a,K166a,e,bsome,find_elim,std_zle,find_le,any_notB,Bool.not_not]
theorem K147_eq (l:List Spec) (h:List Call) (hs:SpecsOk l) (hl:h.length<Lg):K147 Ar.std (eSpecs l) (eCalls h)=some (bif areS l then (forH l h,0) else (false,10)):=by
 simp only [K147,K168_eq l hs,bsome,K114_eq h hl,areS,forH]
 cases hv:validH h with
 | false=>simp
 | true =>
   have:=K169_eq l h hl (fun c hc=>by have:=(callOk_iff c).1 ((validH_ok hv).2 c hc);omega)
   simp [this]
theorem K125_eq (l:List Spec) (h:List Call) (hs:SpecsOk l) (hl:h.length<Lg):K125 Ar.std (eSpecs l) (eCalls h)=some (errH l h):=by
 simp only [K125,K147_eq l h hs hl,bsome,errH]
 cases areS l <;> cases forH l h <;> simp
end Go.Am
