/- Own text: ZL22. -/
import Derived.Test.YtkjeamngjnfpkaaGreatZL21
import Derived.Test.YtkjeamngjnfpkaaGreatZH9
set_option maxRecDepth 100000
set_option maxHeartbeats 2000000
set_option linter.unusedVariables false
set_option linter.unusedSimpArgs false
set_option linter.unusedSectionVars false
namespace Go.Am
open Go
def mkBad (c:Code) (mks:List Int) (i:Nat):Bool := !btw 0 (mks.getD i 0) (((c.getD i []).length:Int)-1)
def isMk (c:Code) (mks:List Int):Bool:=decide (mks.length=c.length) && !(List.range c.length).any (mkBad c mks)
theorem any_congrR {n:Nat} {p q:Nat→Bool} (h : ∀ i,i<n→p i=q i):(List.range n).any p=(List.range n).any q :=
 any_congr fun i hi=>h i (List.mem_range.1 hi)
section
variable {c:Code} (hc:CodeOk c) {mks:List Int} (hl:mks.length<Lg)
include hc hl
theorem bad_at (i:Nat) (hi:i<c.length) (hm:i<mks.length):mks[i]?=some (mks.getD i 0)∧c[i]?=some (c.getD i [])∧IntKind.i64.wrap (((c.getD i []).length:Int)-1)=((c.getD i []).length:Int)-1:=by
 have h1:mks[i]?=some mks[i]:=List.getElem?_eq_getElem hm
 have h2:c[i]?=some c[i]:=List.getElem?_eq_getElem hi
 have e1:mks.getD i 0=mks[i]:=getD_get h1
 have e2:c.getD i []=c[i]:=getD_get h2
 rw [e1,e2]
 exact ⟨h1,h2,wrapL (hc.2 _ (List.mem_of_getElem? h2))⟩
theorem Z53_eq:Z53 Ar.std (eCode c) (eInts mks)=some (isMk c mks):=by
 have e:=iter_rng (step:=Z53L0 Ar.std (eCode c) (eInts mks)) mks.length (fun i=>decide (c.length≤i)||mkBad c mks i) (.inr ()) (.inl ())
  (fun i hi=>by
   have hx:mks[i]?=some (mks.getD i 0):=by rw [List.getElem?_eq_getElem hi,getD_get (List.getElem?_eq_getElem hi)]
   unfold Z53L0
   refine cnT (by simp;omega) (bt (gt_enc hx) (bt (v:=decide (c.length≤i)||mkBad c mks i) ?_ ?_))
   ·by_cases h:c.length≤i
    ·rw [decide_eq_true h];exact cnT (by simp;omega) rfl
    ·rw [decide_eq_false h,Bool.false_or]
     obtain ⟨_,h2,h3⟩:=bad_at hc hl i (by omega) hi
     refine cnF (by simp;omega) (bt (gt_eCode h2) (bt (Z82_eq _ _ _) ?_))
     simp only [std_wrp,std_zsub,len_enc,h3];rfl
   ·cases (decide (c.length≤i)||mkBad c mks i) with
    | true=>exact cnT rfl rfl
    | false=>exact cnF rfl (by simp only [std_wrp,std_zadd,wrap1 hi hl];rfl))
  (by unfold Z53L0;exact cnF (by simp) rfl)
 unfold Z53
 refine bt e ?_
 unfold isMk
 by_cases hlen:mks.length=c.length
 ·rw [hlen,any_congrR (q:=mkBad c mks) (fun i hi=>by rw [decide_eq_false (by omega),Bool.false_or])]
  cases (List.range c.length).any (mkBad c mks) with
  | true=>simp
  | false=>simp [hlen]
 ·rw [decide_eq_false hlen,Bool.false_and]
  cases hb:(List.range mks.length).any fun i=>decide (c.length≤i)||mkBad c mks i with
  | true=>rfl
  | false=>simp;omega
theorem Z64_eq:Z64 Ar.std (eCode c) (eInts mks)=some (isMk c mks):=by
 unfold Z64 isMk
 by_cases hlen:mks.length=c.length
 ·rw [decide_eq_true hlen,Bool.true_and]
  have e:=iter_rng (step:=Z64L0 Ar.std (eCode c) (eInts mks)) c.length (mkBad c mks) (.inr ()) (.inl ())
   (fun i hi=>by
    obtain ⟨h1,h2,h3⟩:=bad_at hc hl i hi (by omega)
    unfold Z64L0
    refine cnT (by simp;omega) (bt (gt_enc h1) (bt (gt_eCode h2) (bt (Z77_eq _ _ _) ?_)))
    simp only [std_wrp,std_zsub,len_enc,h3]
    unfold mkBad
    cases btw 0 (mks.getD i 0) (((c.getD i []).length:Int)-1) with
    | true=>exact cnT rfl (by simp only [std_zadd,wrap1 hi hc.1];rfl)
    | false=>exact cnF rfl rfl)
   (by unfold Z64L0;exact cnF (by simp) rfl)
  refine cnT (by simp;omega) (bt e ?_)
  cases (List.range c.length).any (mkBad c mks) <;> rfl
 ·rw [decide_eq_false hlen,Bool.false_and]
  exact cnF (by simp;omega) rfl
end
def orderOf (c:Code) (u:Tab) (sch mks:List Int):List Int×Int :=
 bif decide (codeE c u=0) then (bif isMk c mks then (bif (doneS c u sch mks).2 then (bif ordOk u (doneS c u sch mks).1 then (cN' (ordN (doneS c u sch mks).1),0) else ([],5)) else ([],2)) else ([],2)) else ([],codeE c u)
section
variable {c:Code} (hc:CodeOk c) {u:Tab} (hut:TabOk u) {sch:List Int} (hl:sch.length<Lg) {mks:List Int} (hlm:mks.length<Lg)
include hc hut hl hlm
theorem done_facts (hmk:MkOk c mks) (hv:vCode c=true) (hu:vUse c u=true):MInv c u (doneS c u sch mks).1∧(doneS c u sch mks).1.st≤12∧(doneS c u sch mks).1.ms.length=(doneS c u sch mks).1.h.length∧(doneS c u sch mks).1.h.length≤12:=by
 have hI:MInv c u (doneS c u sch mks).1∧(doneS c u sch mks).1.st≤12:=by
  unfold doneS
  by_cases h:12<sch.length
  ·rw [decide_eq_true h];exact ⟨minv0 c u,by simp [mc0]⟩
  ·rw [decide_eq_false h]
   refine ⟨runS_inv mks hmk hv hu sch mc0 (minv0 c u),?_⟩
   have:=runS_len c u mks sch mc0 (minv0 c u) hmk hv hu
   have e:mc0.st=0:=rfl
   show (runS c u mks sch mc0).1.st≤12
   omega
 refine ⟨hI.1,hI.2,hI.1.ms,?_⟩
 have:=hI.1.st
 omega
theorem isMk_ok (h:isMk c mks=true):MkOk c mks:=by
 unfold isMk at h
 rw [Bool.and_eq_true,decide_eq_true_eq] at h
 exact .inr h.1
theorem Z26_eq:Z26 Ar.std (eCode c) (eTab u) (eInts sch) (eInts mks)=some (eInts (orderOf c u sch mks).1,(orderOf c u sch mks).2):=by
 unfold Z26 orderOf
 refine bt (Z40_eq c hc u hut) ?_
 by_cases he:codeE c u=0
 ·obtain ⟨hv,hu⟩:=codeE_ok he
  rw [decide_eq_true he,cond_true]
  refine cnT (by simp [he]) (bt (Z53_eq hc hlm) ?_)
  cases hm:isMk c mks with
  | false=>rfl
  | true =>
    have hmk:=isMk_ok hc hut hl hlm hm
    obtain ⟨f1,f2,f3,f4⟩:=done_facts hc hut hl hlm hmk hv hu
    obtain ⟨g1,g2⟩:=doneS_mki (c:=c) (u:=u) mks sch
    refine cnT rfl (bt (Z69_eq mks hmk hv hu sch hl) ?_)
    dsimp only
    cases hd:(doneS c u sch mks).2 with
    | false=>rfl
    | true =>
      refine cnT rfl (bt (Z56_eq g1 f3 (by omega) (ulen mks hmk hv hu) (by omega) (eCode c)) ?_)
      cases ordOk u (doneS c u sch mks).1 with
      | false=>rfl
      | true=>rfl
 ·rw [decide_eq_false he,cond_false]
  exact cnF (by simp [he]) rfl
theorem Z27_eq:Z27 Ar.std (eCode c) (eTab u) (eInts sch) (eInts mks)=some (eInts (orderOf c u sch mks).1,(orderOf c u sch mks).2):=by
 unfold Z27 orderOf
 refine bt (Z67_eq c hc u hut) ?_
 by_cases he:codeE c u=0
 ·obtain ⟨hv,hu⟩:=codeE_ok he
  rw [decide_eq_true he,cond_true]
  refine cnT (by simp [he]) (bt (Z64_eq hc hlm) ?_)
  cases hm:isMk c mks with
  | false=>rfl
  | true =>
    have hmk:=isMk_ok hc hut hl hlm hm
    obtain ⟨f1,f2,f3,f4⟩:=done_facts hc hut hl hlm hmk hv hu
    obtain ⟨g1,g2⟩:=doneS_mki (c:=c) (u:=u) mks sch
    obtain ⟨hs,e,hr⟩:=Z70_eq mks hmk hv hu sch hl hut.1
    refine cnT rfl (bt e ?_)
    cases hd:(doneS c u sch mks).2 with
    | false=>rfl
    | true =>
      rw [cond_true,Sum.elim_inr]
      refine bt (Z66_eq g1 f3 (by omega) g2 (by omega) (eCode c) (eInts mks) (hr hd) f1 (ulen mks hmk hv hu)) ?_
      unfold ordOk
      cases overM u (doneS c u sch mks).1 with
      | false=>rfl
      | true =>
        cases zeroM (doneS c u sch mks).1 with
        | false=>rfl
        | true=>rfl
 ·rw [decide_eq_false he,cond_false]
  exact cnF (by simp [he]) rfl
end
def linB (s:Spec) (h:List Call):Bool:=decide (errH [s] h=0) && !(ords0 [s] h).isEmpty
def breakR (s:Spec) (c:Code) (u:Tab) (sch:List Int):Bool×Int :=
 bif decide (specE s c u=0) then (bif (doneS c u sch []).2 then (!linB s (doneS c u sch []).1.h,0) else (false,2)) else (false,specE s c u)
theorem specE_0 {s:Spec} {c:Code} {u:Tab} (h:specE s c u=0):codeE c u=0:=by
 unfold specE at h;unfold codeE
 cases hv:vCode c with
 | false=>rw [hv] at h;simp at h
 | true =>
   rw [hv] at h
   cases hs:specOk s&&decide (s.2.1=(c.length:Int)) with
   | false=>rw [hs] at h;simp at h
   | true=>rw [hs] at h;exact h
section
variable {s:Spec} (hs:TabOk s.2.2.1∧TabOk s.2.2.2)
include hs
theorem specs1:SpecsOk [s]:=⟨by show 1<9223372036854775808;decide,fun x hx=>by rw [List.mem_singleton] at hx;subst hx;exact hs⟩
theorem Z38_eq (h:List Call) (hl:h.length<Lg):Z38 Ar.std s.1 s.2.1 (eTab s.2.2.1) (eTab s.2.2.2) (eCalls h)=some (linB s h):=by
 unfold Z38
 have e:=Z85_eq [s] h (specs1 hs) hl
 refine bt e (bt (v:=linB s h) ?_ rfl)
 unfold linB
 by_cases he:errH [s] h=0
 ·exact cnT (by simp [he]) rfl
 ·rw [decide_eq_false he,Bool.false_and]
  exact cnF (by simp [he]) rfl
theorem Z63_eq (h:List Call) (hl:h.length<Lg):Z63 Ar.std s.1 s.2.1 (eTab s.2.2.1) (eTab s.2.2.2) (eCalls h)=some (linB s h):=by
 unfold Z63
 exact bt (Z14_eq [s] h (specs1 hs) hl) rfl
theorem Z60_eq (c:Code) (hc:CodeOk c) (u:Tab) (hu:TabOk u):Z60 Ar.std s.1 s.2.1 (eTab s.2.2.1) (eTab s.2.2.2) (eCode c) (eTab u)=some (specE s c u):=by
 unfold Z60 specE
 refine bt (v:=vCode c && !(specOk s&&decide (s.2.1=(c.length:Int)))) (bt (Z30_eq c hc) ?_) ?_
 ·cases vCode c with
  | false=>rfl
  | true=>exact cnT rfl (bt (Z100_eq s hs c) rfl)
 ·cases hv:vCode c with
  | false=>exact cnF rfl (bt (Z67_eq c hc u hu) (by unfold codeE;rw [hv];rfl))
  | true =>
    cases specOk s&&decide (s.2.1=(c.length:Int)) with
    | false=>rfl
    | true=>exact cnF rfl (bt (Z67_eq c hc u hu) (by unfold codeE;rw [hv];rfl))
section
variable {c:Code} (hc:CodeOk c) {u:Tab} (hut:TabOk u) {sch:List Int} (hl:sch.length<Lg)
include hc hut hl
theorem done_h:(doneS c u sch []).1.h.length<Lg∨codeE c u≠0:=by
 by_cases he:codeE c u=0
 ·obtain ⟨hv,hu⟩:=codeE_ok he
  have:=done_facts hc hut hl (mks:=[]) (by decide) (.inl rfl) hv hu
  exact .inl (Nat.lt_of_le_of_lt this.2.2.2 (by decide))
 ·exact .inr he
theorem Z24_eq:Z24 Ar.std s.1 s.2.1 (eTab s.2.2.1) (eTab s.2.2.2) (eCode c) (eTab u) (eInts sch)=some (breakR s c u sch):=by
 unfold Z24 breakR
 refine bt (Z33_eq s hs c hc u hut) ?_
 by_cases he:specE s c u=0
 ·have he2:=specE_0 he
  have hlen:=(done_h hs hc hut hl).resolve_right (fun h=>h he2)
  rw [decide_eq_true he,cond_true]
  refine cnT (by simp [he]) (bt (Z15_eq hc hut hl) ?_)
  unfold runOf
  rw [decide_eq_true he2,cond_true]
  cases (doneS c u sch []).2 with
  | false=>rfl
  | true=>exact bt (v := !linB s (doneS c u sch []).1.h) (cnT rfl (bt (Z38_eq hs _ hlen) rfl)) rfl
 ·rw [decide_eq_false he,cond_false]
  exact cnF (by simp [he]) rfl
theorem Z25_eq:Z25 Ar.std s.1 s.2.1 (eTab s.2.2.1) (eTab s.2.2.2) (eCode c) (eTab u) (eInts sch)=some (breakR s c u sch):=by
 unfold Z25 breakR
 refine bt (Z60_eq hs c hc u hut) ?_
 by_cases he:specE s c u=0
 ·have he2:=specE_0 he
  have hlen:=(done_h hs hc hut hl).resolve_right (fun h=>h he2)
  rw [decide_eq_true he,cond_true]
  obtain ⟨hs',e,_⟩:=Z68_eq hc hut hl
  rw [decide_eq_true he2,cond_true] at e
  refine cnT (by simp [he]) (bt e ?_)
  cases (doneS c u sch []).2 with
  | false=>rfl
  | true=>exact bt (Z63_eq hs _ hlen) rfl
 ·rw [decide_eq_false he,cond_false]
  exact cnF (by simp [he]) rfl
end
end
theorem orderOf_len {c:Code} (hc:CodeOk c) {u:Tab} (hut:TabOk u) {sch:List Int} (hl:sch.length<Lg) {mks:List Int} (hlm:mks.length<Lg):(orderOf c u sch mks).1.length<Lg:=by
 have z:([]:List Int).length<Lg:=by decide
 unfold orderOf
 by_cases he:codeE c u=0
 ·obtain ⟨hv,hu⟩:=codeE_ok he
  rw [decide_eq_true he,cond_true]
  cases hm:isMk c mks with
  | false=>exact z
  | true =>
    have hmk:=isMk_ok hc hut hl hlm hm
    obtain ⟨f1,f2,f3,f4⟩:=done_facts hc hut hl hlm hmk hv hu
    obtain ⟨g1,g2⟩:=doneS_mki (c:=c) (u:=u) mks sch
    cases (doneS c u sch mks).2 with
    | false=>exact z
    | true =>
      cases hok:ordOk u (doneS c u sch mks).1 with
      | false=>exact z
      | true =>
        have hz:zeroM (doneS c u sch mks).1=false:=by
         unfold ordOk at hok;rw [Bool.and_eq_true] at hok;simpa using hok.2
        have:=(ordN_perm g1 f3 hz).length_eq
        rw [List.length_range] at this
        show (cN' (ordN (doneS c u sch mks).1)).length<Lg
        unfold cN'
        rw [List.length_map,this]
        exact Nat.lt_of_le_of_lt f4 (by decide)
 ·rw [decide_eq_false he];exact z
theorem Z6_ok (s:Spec) (hs:TabOk s.2.2.1∧TabOk s.2.2.2) (c:Code) (hc:CodeOk c) (u:Tab) (hu:TabOk u) (sch:List Int) (hl:sch.length<Lg) (mks:List Int) (hlm:mks.length<Lg) :
  Z6 Ar.std s.1 s.2.1 (eTab s.2.2.1) (eTab s.2.2.2) (eCode c) (eTab u) (eInts sch) (eInts mks)=some true:=by
 unfold Z6
 refine bt (v:=largeX s c u||(decide (60<(sch.length:Int))||decide (60<(mks.length:Int)))) ?_ ?_
 ·refine bt (Z18_eq s hs c hc u hu) ?_
  simp only [std_zlt,len_enc]
  cases largeX s c u with
  | true=>rfl
  | false=>cases decide (60<(sch.length:Int)) <;> rfl
 cases largeX s c u||(decide (60<(sch.length:Int))||decide (60<(mks.length:Int))) with
 | true=>exact cnT rfl (bt Z9_eq rfl)
 | false =>
   refine cnF rfl (bt (Z24_eq hs hc hu hl) (bt (Z25_eq hs hc hu hl) (bt (Z26_eq hc hu hl hlm) (bt (Z27_eq hc hu hl hlm) (bt (v:=true) ?_ rfl)))))
   exact cnT (by simp) (cnT (by simp) (bt (Z21_same _ (orderOf_len hc hu hl hlm)) (cnT rfl (cnT (by simp) (bt Z9_eq rfl)))))
end Go.Am
