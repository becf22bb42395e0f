/- Own text: ZL18. -/
import Derived.Test.YtkjeamngjnfpkaaGreatZL21
import Derived.Test.YtkjeamngjnfpkaaGreatZH9
set_option maxRecDepth 100000
set_option maxHeartbeats 2000000
set_option linter.unusedVariables false
set_option linter.unusedSimpArgs false
set_option linter.unusedSectionVars false
namespace Go.Am
open Go
def mkBad (c:Code) (mks:List Int) (i:Nat):Bool := !btw 0 (mks.getD i 0) (((c.getD i []).length:Int)-1)
def isMk (c:Code) (mks:List Int):Bool:=decide (mks.length=c.length) && !(List.range c.length).any (mkBad c mks)
theorem any_congrR {n:Nat} {p q:Nat→Bool} (h : ∀ i,i<n→p i=q i):(List.range n).any p=(List.range n).any q :=
 any_congr fun i hi=>h i (List.mem_range.1 hi)
section
variable {c:Code} (hc:CodeOk c) {mks:List Int} (hl:mks.length<Lg)
include hc hl
theorem bad_at (i:Nat) (hi:i<c.length) (hm:i<mks.length):mks[i]?=some (mks.getD i 0)∧c[i]?=some (c.getD i [])∧IntKind.i64.wrap (((c.getD i []).length:Int)-1)=((c.getD i []).length:Int)-1:=by
 have h1:mks[i]?=some mks[i]:=List.getElem?_eq_getElem hm
 have h2:c[i]?=some c[i]:=List.getElem?_eq_getElem hi
 have e1:mks.getD i 0=mks[i]:=getD_get h1
 have e2:c.getD i []=c[i]:=getD_get h2
 rw [e1,e2]
 exact ⟨h1,h2,wrapL (hc.2 _ (List.mem_of_getElem? h2))⟩
theorem Z53_eq:Z53 Ar.std (eCode c) (eInts mks)=some (isMk c mks):=by
 have e:=iter_rng (step:=Z53L0 Ar.std (eCode c) (eInts mks)) mks.length (fun i=>decide (c.length≤i)||mkBad c mks i) (.inr ()) (.inl ())
  (fun i hi=>by
   have hx:mks[i]?=some (mks.getD i 0):=by rw [List.getElem?_eq_getElem hi,getD_get (List.getElem?_eq_getElem hi)]
   unfold Z53L0
   refine cnT (by simp;omega) (bt (gt_enc hx) (bt (v:=decide (c.length≤i)||mkBad c mks i) ?_ ?_))
   ·by_cases h:c.length≤i
    ·rw [decide_eq_true h];exact cnT (by simp;omega) rfl
    ·rw [decide_eq_false h,Bool.false_or]
     obtain ⟨_,h2,h3⟩:=bad_at hc hl i (by omega) hi
     refine cnF (by simp;omega) (bt (gt_eCode h2) (bt (Z82_eq _ _ _) ?_))
     simp only [std_wrp,std_zsub,len_enc,h3];rfl
   ·cases (decide (c.length≤i)||mkBad c mks i) with
    | true=>exact cnT rfl rfl
    | false=>exact cnF rfl (by simp only [std_wrp,std_zadd,wrap1 hi hl];rfl))
  (by unfold Z53L0;exact cnF (by simp) rfl)
 unfold Z53
 refine bt e ?_
 unfold isMk
 by_cases hlen:mks.length=c.length
 ·rw [hlen,any_congrR (q:=mkBad c mks) (fun i hi=>by rw [decide_eq_false (by omega),Bool.false_or])]
  cases (List.range c.length).any (mkBad c mks) with
  | true=>simp
  | false=>simp [hlen]
 ·rw [decide_eq_false hlen,Bool.false_and]
  cases hb:(List.range mks.length).any fun i=>decide (c.length≤i)||mkBad c mks i with
  | true=>rfl
  | false=>simp;omega
theorem Z64_eq:Z64 Ar.std (eCode c) (eInts mks)=some (isMk c mks):=by
 unfold Z64 isMk
 by_cases hlen:mks.length=c.length
 ·rw [decide_eq_true hlen,Bool.true_and]
  have e:=iter_rng (step:=Z64L0 Ar.std (eCode c) (eInts mks)) c.length (mkBad c mks) (.inr ()) (.inl ())
   (fun i hi=>by
    obtain ⟨h1,h2,h3⟩:=bad_at hc hl i hi (by omega)
    unfold Z64L0
    refine cnT (by simp;omega) (bt (gt_enc h1) (bt (gt_eCode h2) (bt (Z77_eq _ _ _) ?_)))
    simp only [std_wrp,std_zsub,len_enc,h3]
    unfold mkBad
    cases btw 0 (mks.getD i 0) (((c.getD i []).length:Int)-1) with
    | true=>exact cnT rfl (by simp only [std_zadd,wrap1 hi hc.1];rfl)
    | false=>exact cnF rfl rfl)
   (by unfold Z64L0;exact cnF (by simp) rfl)
  refine cnT (by simp;omega) (bt e ?_)
  cases (List.range c.length).any (mkBad c mks) <;> rfl
 ·rw [decide_eq_false hlen,Bool.false_and]
  exact cnF (by simp;omega) rfl
end
section
variable {c:Code} (hc:CodeOk c) {u:Tab} (hut:TabOk u) {sch:List Int} (hl:sch.length<Lg) {mks:List Int} (hlm:mks.length<Lg)
include hc hut hl hlm
end
section
variable {s:Spec} (hs:TabOk s.2.2.1∧TabOk s.2.2.2)
include hs
theorem Z60_eq (c:Code) (hc:CodeOk c) (u:Tab) (hu:TabOk u):Z60 Ar.std s.1 s.2.1 (eTab s.2.2.1) (eTab s.2.2.2) (eCode c) (eTab u)=some (specE s c u):=by
 unfold Z60 specE
 refine bt (v:=vCode c && !(specOk s&&decide (s.2.1=(c.length:Int)))) (bt (Z30_eq c hc) ?_) ?_
 ·cases vCode c with
  | false=>rfl
  | true=>exact cnT rfl (bt (Z100_eq s hs c) rfl)
 ·cases hv:vCode c with
  | false=>exact cnF rfl (bt (Z67_eq c hc u hu) (by unfold codeE;rw [hv];rfl))
  | true =>
    cases specOk s&&decide (s.2.1=(c.length:Int)) with
    | false=>rfl
    | true=>exact cnF rfl (bt (Z67_eq c hc u hu) (by unfold codeE;rw [hv];rfl))
section
variable {c:Code} (hc:CodeOk c) {u:Tab} (hut:TabOk u) {sch:List Int} (hl:sch.length<Lg)
include hc hut hl
end
end
end Go.Am

set_option maxRecDepth 100000
set_option maxHeartbeats 1000000
set_option linter.unusedVariables false
set_option linter.unusedSimpArgs false
set_option linter.unusedSectionVars false
namespace Go.Am
open Go
section
variable {c:Code} (hc:CodeOk c) {u:Tab} (hu':TabOk u) (hv:vCode c=true) (hu:vUse c u=true)
include hc hu' hv hu
omit hc hu' hv hu in
theorem leftM_has {m:Mc} {p:Int} (h:p∈leftM u m):hasM u p m=true:=by
 unfold leftM at h
 rw [List.mem_map] at h
 obtain ⟨t,ht,rfl⟩:=h
 exact (List.mem_filter.1 ht).2
end
end Go.Am
