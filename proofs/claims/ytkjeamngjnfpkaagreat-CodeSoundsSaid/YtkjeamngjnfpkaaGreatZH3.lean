/- Own text: ZH3. -/
import Derived.Test.YtkjeamngjnfpkaaGreatZL21
set_option maxRecDepth 100000
set_option linter.unusedVariables false
set_option linter.unusedSimpArgs false
namespace Go.Am
open Go
namespace Call
end Call
theorem Z90_eq (a b c:Int):Z90 Ar.std a b c=some (btw a b c):=by simp [Z90,btw]
end Go.Am
namespace Go.Am
section
variable (a b:Int) (t u:List D) (lim:Int)
end
theorem Z149_eq (l:List Spec) (hl:SpecsOk l):Z149 Ar.std (eSpecs l)=some (btw 1 l.length 2&&l.all specOk):=by
 have e:iter (Z198L0 Ar.std (eSpecs l)) 0=some ((l.findIdx? fun s => !specOk s).elim (.inl ()) (fun i => .inr (i:Int))):=by
  refine iter_find l _ _ _ (fun i s hn hi => ?_) ?_
  ·have h:=hl.2 s (List.mem_of_getElem? hn)
   simp [Z198L0,Z183,Z81_eq s h.1 h.2,gt_eSpecs hn,hi,wrap1 hi hl.1]
  ·simp [Z198L0]
 simp only [Z149,Z152_eq,Z182,Z198,e,bsome,find_elim,std_zle,find_le,len_eSpecs,cond_some]
 cases btw 1 l.length 2 <;> simp [any_notB]
theorem Z48_eq (l:List Spec) (hl:SpecsOk l):Z48 Ar.std (eSpecs l)=some (btw 1 l.length 2&&l.all specOk):=by
 have e:iter (Z48L0 Ar.std (eSpecs l)) 0=some (bif (l.any fun s => !specOk s) then .inr () else .inl ()):=by
  refine iter_any l _ _ _ (fun i s hn hi => ?_) ?_
  ·have h:=hl.2 s (List.mem_of_getElem? hn)
   simp only [Z48L0,Z31_eq s h.1 h.2,gt_eSpecs hn,bsome,std_zlt,len_eSpecs,ltC hi,cond_true,std_wrp,std_zadd,wrap1 hi hl.1]
   cases specOk s <;> rfl
  ·simp [Z48L0]
 simp only [Z48,e,bsome,Z90_eq,len_eSpecs,any_notB]
 cases l.all specOk <;> simp
end Go.Am

namespace Go.Am
open Go
theorem Z171_eq (c d:Call):Z171 Ar.std c.1 c.2.1 c.2.2.1 c.2.2.2.1 c.2.2.2.2.1 c.2.2.2.2.2 d.1 d.2.1 d.2.2.1 d.2.2.2.1 d.2.2.2.2.1 d.2.2.2.2.2=some (bef c d):=by
 simp only [Z171,std_zeq,std_zlt,cond_some,bsome,bef]
 by_cases h:c.2.2.2.2.2=0 <;> simp [h]
theorem Z135_eq (c d:Call):Z135 Ar.std c.1 c.2.1 c.2.2.1 c.2.2.2.1 c.2.2.2.2.1 c.2.2.2.2.2 d.1 d.2.1 d.2.2.1 d.2.2.2.1 d.2.2.2.2.1 d.2.2.2.2.2=some (meet c d):=by
 simp only [Z135,std_zeq,Z171_eq,bsome,cond_some,meet,bif_or,bif_nand,bif_and]
 by_cases h:c.2.2.2.2.2=0 <;> simp [h]
theorem Z91_eq (h:List Call) (hl:h.length<Lg):Z91 Ar.std (eCalls h)=some (validH h):=by
 have e0 : ∀ i c,h[i]?=some c->i<=h.length->iter (Z91L0 Ar.std (eCalls h) (i:Int) c.1 c.2.1 c.2.2.1 c.2.2.2.1 c.2.2.2.2.1 c.2.2.2.2.2) 0=some (bif (h.take i).any (meet c) then .inr () else .inl ()):=by
  intro i c hc hi
  have hlen:(h.take i).length=i:=by simp;omega
  have:=iter_any (step:=Z91L0 Ar.std (eCalls h) (i:Int) c.1 c.2.1 c.2.2.1 c.2.2.2.1 c.2.2.2.2.1 c.2.2.2.2.2) (h.take i) (meet c) (.inr ()) (.inl ()) (fun k d hd hk=>by
   have hd':h[k]?=some d:=by rw [List.getElem?_take] at hd;split at hd <;> simp_all
   have hk':k<i:=by omega
   simp only [Z91L0,std_zlt,ltC hk',cond_true,gt_enc hd',bsome,Z135_eq,std_wrp,std_zadd,wrap1 hk' (Nat.lt_of_le_of_lt hi hl)]
   cases meet c d <;> rfl) (by simp [Z91L0,hlen])
  exact this
 have e:iter (Z91L1 Ar.std (eCalls h)) 0=some (bif (List.range h.length).any (badAt h) then .inr () else .inl ()):=by
  refine iter_rng h.length _ _ _ (fun i hi => ?_) ?_
  ·have hc:=zp1 hi
   generalize h[i]=c at hc
   rw [badAt_get hc]
   simp only [Z91L1,std_zlt,len_enc,ltC hi,cond_true,gt_enc hc,bsome,Z90_eq,std_zeq,std_wrp,std_zadd,wrap1 hi hl,e0 i c hc (by omega),cond_some]
   have hw:btw 1 c.fr 100=true->IntKind.i64.wrap (c.2.2.2.2.1+1)=c.2.2.2.2.1+1:=by
    intro hb;rw [btw_true] at hb;exact i64w _ (by simp only [Call.fr] at hb;omega) (by simp only [Call.fr] at hb;omega)
   cases h1:btw 0 c.1 3 <;> simp only [h1,callOk,cond_true,cond_false,Bool.not_true,Bool.not_false,Bool.true_and,Bool.false_and,Bool.true_or,Call.th] <;> try rfl
   cases h2:btw 0 c.2.1 1 <;> simp only [h2,cond_true,cond_false,Bool.not_true,Bool.not_false,Bool.true_and,Bool.false_and,Bool.true_or] <;> try rfl
   cases h3:btw 0 c.2.2.1 3 <;> simp only [h3,cond_true,cond_false,Bool.not_true,Bool.not_false,Bool.true_and,Bool.false_and,Bool.true_or] <;> try rfl
   cases h4:btw 0 c.2.2.2.1 9 <;> simp only [h4,cond_true,cond_false,Bool.not_true,Bool.not_false,Bool.true_and,Bool.false_and,Bool.true_or] <;> try rfl
   cases h5:btw 1 c.2.2.2.2.1 100 <;> simp only [h5,cond_true,cond_false,Bool.not_true,Bool.not_false,Bool.true_and,Bool.false_and,Bool.true_or] <;> try rfl
   rw [hw h5]
   by_cases h6:c.2.2.2.2.2=0
   ·simp only [h6,decide_true,cond_true]
    cases decide (c.2.2.2.1=0) <;> simp only [cond_true,cond_false,Bool.not_true,Bool.not_false,Bool.true_or,Bool.false_or] <;> try rfl
    cases (h.take i).any (meet c) <;> rfl
   ·simp only [h6,decide_false,cond_false]
    cases btw (c.2.2.2.2.1+1) c.2.2.2.2.2 100 <;> simp only [cond_true,cond_false,Bool.not_true,Bool.not_false,Bool.true_or,Bool.false_or] <;> try rfl
    cases (h.take i).any (meet c) <;> rfl
  ·simp [Z91L1]
 simp only [Z91,std_zlt,len_enc,e,bsome,validH]
 cases decide (8<(h.length:Int)) <;> simp
end Go.Am
namespace Go.Am
end Go.Am

namespace Go.Am
open Go
def areS (l:List Spec):Bool:=btw 1 l.length 2&&l.all specOk
def fitC (l:List Spec) (c:Call):Bool:=(l[c.ob.toNat]?.map fun s=>decide (c.op<s.2.1)).getD false
def forH (l:List Spec) (h:List Call):Bool:=validH h&&h.all (fitC l)
def errH (l:List Spec) (h:List Call):Int:=bif areS l then (bif forH l h then 0 else 20) else 10
theorem Z185_eq (l:List Spec) (c:Call) (hc:0<=c.ob):Z185 Ar.std c.1 c.2.1 c.2.2.1 c.2.2.2.1 c.2.2.2.2.1 c.2.2.2.2.2 (eSpecs l)=some (!fitC l c):=by
 simp only [Z185,std_zle,len_eSpecs,fitC]
 by_cases h:(l.length:Int)<=c.2.1
 ·have:l[c.2.1.toNat]?=none:=by rw [List.getElem?_eq_none_iff];omega
  simp [h,Call.ob,this]
 ·have hlt:c.2.1.toNat<l.length:=by simp only [Call.ob] at hc;omega
  have hg:=zp1 hlt
  simp only [h,decide_false,cond_false,gt_eSpecsI hc hg,bsome,Call.ob,hg,Option.map_some,Option.getD_some,Call.op]
  congr 1
  rw [Bool.eq_iff_iff];simp
theorem Z151_eq (l:List Spec) (h:List Call) (hl:h.length<Lg) (hc : ∀ c∈h,0<=c.ob):Z151 Ar.std (eSpecs l) (eCalls h)=some (h.all (fitC l)):=by
 have e:iter (Z190aL0 Ar.std (eCalls h) (eSpecs l)) 0=some ((h.findIdx? fun c => !fitC l c).elim (.inl ()) (fun i => .inr (i:Int))):=by
  refine iter_find h _ _ _ (fun i c hn hi => ?_) ?_
  ·simp [Z190aL0,Z185_eq l c (hc c (List.mem_of_getElem? hn)),gt_enc hn,hi,wrap1 hi hl]
  ·simp [Z190aL0]
 simp only [Z151,Z160a,Z190a,e,bsome,find_elim,std_zle,find_le,any_notB,Bool.not_not]
theorem Z106_eq (l:List Spec) (h:List Call) (hs:SpecsOk l) (hl:h.length<Lg):Z106 Ar.std (eSpecs l) (eCalls h)=some (bif areS l then (forH l h,0) else (false,10)):=by
 simp only [Z106,Z149_eq l hs,bsome,Z150_eq h hl,areS,forH]
 cases hv:validH h with
 | false=>simp
 | true =>
   have:=Z151_eq l h hl (fun c hc=>by have:=(callOk_iff c).1 ((validH_ok hv).2 c hc);omega)
   simp [this]
theorem Z72_eq (l:List Spec) (h:List Call) (hs:SpecsOk l) (hl:h.length<Lg):Z72 Ar.std (eSpecs l) (eCalls h)=some (errH l h):=by
 simp only [Z72,Z106_eq l h hs hl,bsome,errH]
 cases areS l <;> cases forH l h <;> simp
theorem Z49_eq (l:List Spec) (h:List Call) (hs:SpecsOk l) (hl:h.length<Lg):Z49 Ar.std (eSpecs l) (eCalls h)=some (areS l&&forH l h):=by
 simp only [Z49,Z48_eq l hs,bsome,Z91_eq h hl,areS,forH]
 cases ha:btw 1 (l.length:Int) 2&&l.all specOk with
 | false=>simp
 | true =>
   cases hv:validH h with
   | false=>simp
   | true =>
     have e:iter (Z49L0 Ar.std (eSpecs l) (eCalls h)) 0=some (bif (h.any fun c => !fitC l c) then .inr () else .inl ()):=by
      refine iter_any h _ _ _ (fun i c hc hi => ?_) ?_
      ·have hob:0<=c.ob:=by have:=(callOk_iff c).1 ((validH_ok hv).2 c (List.mem_of_getElem? hc));omega
       simp only [Z49L0,std_zlt,std_zle,len_eSpecs,len_enc,ltC hi,cond_true,gt_enc hc,bsome,std_wrp,std_zadd,wrap1 hi hl,fitC]
       by_cases hle:(l.length:Int)<=c.2.1
       ·have:l[c.2.1.toNat]?=none:=by rw [List.getElem?_eq_none_iff];omega
        simp [hle,Call.ob,this]
       ·have hlt:c.2.1.toNat<l.length:=by simp only [Call.ob] at hob;omega
        have hg:=zp1 hlt
        simp only [List.length_map,hle,decide_false,cond_false,gt_eSpecsI hob hg,bsome,Call.ob,hg,Option.map_some,Option.getD_some,Call.op]
        by_cases hq:c.2.2.1<l[c.2.1.toNat].2.1
        ·have : ¬ l[c.2.1.toNat].2.1<=c.2.2.1:=by omega
         simp [hq,this]
        ·have:l[c.2.1.toNat].2.1<=c.2.2.1:=by omega
         simp [hq,this]
      ·simp [Z49L0]
     simp only [bsome,cond_true,cond_false,Bool.not_true,e,Bool.true_and,any_notB]
     cases h.all (fitC l) <;> rfl
theorem Z92_eq (l:List Spec) (h:List Call) (hs:SpecsOk l) (hl:h.length<Lg):Z92 Ar.std (eSpecs l) (eCalls h)=some (errH l h):=by
 simp only [Z92,Z48_eq l hs,bsome,Z49_eq l h hs hl,errH]
 cases ha:areS l <;> simp only [areS] at ha <;> simp [ha]
end Go.Am
