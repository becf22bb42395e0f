import Derived.Test.YtkjeamngjnfpkaaGreatZL21
import Derived.Test.YtkjeamngjnfpkaaGreatZH9
set_option maxRecDepth 100000
set_option maxHeartbeats 2000000
set_option linter.unusedVariables false
set_option linter.unusedSimpArgs false
set_option linter.unusedSectionVars false
namespace Go.Am
open Go
def a9S (c:Code) (mks:List Int) (i:Nat):Bool := !btw 0 (mks.getD i 0) (((c.getD i []).length:Int)-1)
def b9t (c:Code) (mks:List Int):Bool:=decide (mks.length=c.length) && !(List.range c.length).any (a9S c mks)
theorem b2A {n:Nat} {p q:Nat->Bool} (h : ∀ i,i<n->p i=q i):(List.range n).any p=(List.range n).any q :=
 a5a fun i hi=>h i (List.mem_range.1 hi)
section
variable {c:Code} (hc:a1q c) {mks:List Int} (hl:mks.length<Lg)
include hc hl
theorem c1B (i:Nat) (hi:i<c.length) (hm:i<mks.length):mks[i]?=some (mks.getD i 0)/\c[i]?=some (c.getD i [])/\IntKind.i64.wrap (((c.getD i []).length:Int)-1)=((c.getD i []).length:Int)-1:=by
 have h1:mks[i]?=some mks[i]:=zp1 hm;have h2:c[i]?=some c[i]:=zp1 hi;have e1:mks.getD i 0=mks[i]:=a0H h1;have e2:c.getD i []=c[i]:=a0H h2;rw [e1,e2];exact ⟨h1,h2,b2w (hc.2 _ (List.mem_of_getElem? h2))⟩
theorem c1C:Z53 Ar.std (a0o c) (a0d mks)=some (b9t c mks):=by
 have e:=a2V (step:=b3g Ar.std (a0o c) (a0d mks)) mks.length (fun i=>decide (c.length<=i)||a9S c mks i) (.inr ()) (.inl ())
  (fun i hi=>by
   have hx:mks[i]?=some (mks.getD i 0):=by rw [zp1 hi,a0H (zp1 hi)]
   unfold b3g;refine cnT (by simp;omega) (bt (a0t hx) (bt (v:=decide (c.length<=i)||a9S c mks i) ?_ ?_))
   ·by_cases h:c.length<=i
    ·rw [decide_eq_true h];exact cnT (by simp;omega) rfl
    rw [decide_eq_false h,Bool.false_or];obtain ⟨_,h2,h3⟩:=c1B hc hl i (by omega) hi;refine cnF (by simp;omega) (bt (a2W h2) (bt (a3I _ _ _) ?_));simp only [a0g,a0D,a0p,h3];rfl
   cases (decide (c.length<=i)||a9S c mks i) with
   | true=>exact cnT rfl rfl
   | false=>exact cnF rfl (by simp only [a0g,a0i,a0G hi hl];rfl))
  (by unfold b3g;exact cnF (by simp) rfl)
 unfold Z53;refine bt e ?_;unfold b9t;by_cases hlen:mks.length=c.length
 ·rw [hlen,b2A (q:=a9S c mks) (fun i hi=>by rw [decide_eq_false (by omega),Bool.false_or])];cases (List.range c.length).any (a9S c mks) with
  | true=>simp
  | false=>simp [hlen]
 rw [decide_eq_false hlen,Bool.false_and];cases hb:(List.range mks.length).any fun i=>decide (c.length<=i)||a9S c mks i with
 | true=>rfl
 | false=>simp;omega
end
section
variable {c:Code} (hc:a1q c) {u:Tab} (hut:a0C u) {sch:List Int} (hl:sch.length<Lg) {mks:List Int} (hlm:mks.length<Lg)
include hc hut hl hlm
end
def a7c (s:Spec) (h:List Call):Bool:=decide (a5V [s] h=0) && !(a5X [s] h).isEmpty
section
variable {s:Spec} (hs:a0C s.2.2.1/\a0C s.2.2.2)
include hs
theorem b1F:a1Y [s]:=⟨by show 1<9223372036854775808;decide,fun x hx=>by rw [List.mem_singleton] at hx;subst hx;exact hs⟩
theorem b7B (h:List Call) (hl:h.length<Lg):Z38 Ar.std s.1 s.2.1 (a0r s.2.2.1) (a0r s.2.2.2) (a0b h)=some (a7c s h):=by
 unfold Z38;have e:=c1w [s] h (b1F hs) hl;refine bt e (bt (v:=a7c s h) ?_ rfl);unfold a7c;by_cases he:a5V [s] h=0
 ·exact cnT (by simp [he]) rfl
 rw [decide_eq_false he,Bool.false_and];exact cnF (by simp [he]) rfl
section
variable {c:Code} (hc:a1q c) {u:Tab} (hut:a0C u) {sch:List Int} (hl:sch.length<Lg)
include hc hut hl
end
end
def a8B (s:Spec) (c:Code) (u:Tab):Bool := !b1v s c u&&(a1e c&&(a0P s&&(decide (s.2.1=(c.length:Int))&&a3E c u)))
theorem c4I (s:Spec) (hs:a0C s.2.2.1/\a0C s.2.2.2) (c:Code) (hc:a1q c) (u:Tab) (hu:a0C u):Z8 Ar.std s.1 s.2.1 (a0r s.2.2.1) (a0r s.2.2.2) (a0o c) (a0r u)=some (a8B s c u):=by
 unfold Z8 a8B;refine bt (bt (c1g s hs c hc u hu) ?_) rfl;cases b1v s c u with
 | true=>rfl
 | false =>
   refine cnF rfl (bt (c0Y c hc) ?_);cases a1e c with
   | false=>rfl
   | true =>
     refine cnT rfl (bt (b7w s hs.1 hs.2) ?_);cases a0P s with
     | false=>rfl
     | true =>
       refine cnT rfl ?_;rw [a2q];cases hd:decide (s.2.1=(c.length:Int)) with
       | false=>exact cnF hd rfl
       | true=>exact cnT hd (bt (c0Z c hc u hu) rfl)
section
variable {c:Code} (hc:a1q c) {u:Tab} (hu':a0C u) (hv:a1e c=true) (hu:a3E c u=true)
include hc hu' hv hu
omit hc hu' in
theorem b6A {α:Type} (sch:List Int) (hl:sch.length<=12) (hd:(a1a c u [] sch mc0).2=true) (f:Mc->α) (no:α):a8u c u sch f no=(f (a1a c u [] sch mc0).1,0):=by
 have e:a3o c u=0:=by unfold a3o;rw [hv,hu];rfl
 have e2:a1S c u sch []=a1a c u [] sch mc0:=by unfold a1S;rw [decide_eq_false (by omega)];rfl
 unfold a8u;rw [e,e2,hd];rfl
omit hc hu' hv hu in
theorem a2N {m:Mc} {p:Int} (h:p∈a0y u m):a3b u p m=true:=by
 unfold a0y at h;rw [List.mem_map] at h;obtain ⟨t,ht,rfl⟩:=h;exact (List.mem_filter.1 ht).2
end
end Go.Am
