/- Own text: ZL18. -/
import Derived.Test.YtkjeamngjnfpkaaGreatZL21
import Derived.Test.YtkjeamngjnfpkaaGreatZH9
set_option maxRecDepth 100000
set_option maxHeartbeats 2000000
set_option linter.unusedVariables false
set_option linter.unusedSimpArgs false
set_option linter.unusedSectionVars false
namespace Go.Am
open Go
def mkBad (c:Code) (mks:List Int) (i:Nat):Bool := !btw 0 (mks.getD i 0) (((c.getD i []).length:Int)-1)
def isMk (c:Code) (mks:List Int):Bool:=decide (mks.length=c.length) && !(List.range c.length).any (mkBad c mks)
theorem any_congrR {n:Nat} {p q:Nat→Bool} (h : ∀ i,i<n→p i=q i):(List.range n).any p=(List.range n).any q :=
 any_congr fun i hi=>h i (List.mem_range.1 hi)
section
variable {c:Code} (hc:CodeOk c) {mks:List Int} (hl:mks.length<Lg)
include hc hl
theorem bad_at (i:Nat) (hi:i<c.length) (hm:i<mks.length):mks[i]?=some (mks.getD i 0)∧c[i]?=some (c.getD i [])∧IntKind.i64.wrap (((c.getD i []).length:Int)-1)=((c.getD i []).length:Int)-1:=by
 have h1:mks[i]?=some mks[i]:=List.getElem?_eq_getElem hm
 have h2:c[i]?=some c[i]:=List.getElem?_eq_getElem hi
 have e1:mks.getD i 0=mks[i]:=getD_get h1
 have e2:c.getD i []=c[i]:=getD_get h2
 rw [e1,e2]
 exact ⟨h1,h2,wrapL (hc.2 _ (List.mem_of_getElem? h2))⟩
theorem Z53_eq:Z53 Ar.std (eCode c) (eInts mks)=some (isMk c mks):=by
 have e:=iter_rng (step:=Z53L0 Ar.std (eCode c) (eInts mks)) mks.length (fun i=>decide (c.length≤i)||mkBad c mks i) (.inr ()) (.inl ())
  (fun i hi=>by
   have hx:mks[i]?=some (mks.getD i 0):=by rw [List.getElem?_eq_getElem hi,getD_get (List.getElem?_eq_getElem hi)]
   unfold Z53L0
   refine cnT (by simp;omega) (bt (gt_enc hx) (bt (v:=decide (c.length≤i)||mkBad c mks i) ?_ ?_))
   ·by_cases h:c.length≤i
    ·rw [decide_eq_true h];exact cnT (by simp;omega) rfl
    ·rw [decide_eq_false h,Bool.false_or]
     obtain ⟨_,h2,h3⟩:=bad_at hc hl i (by omega) hi
     refine cnF (by simp;omega) (bt (gt_eCode h2) (bt (Z82_eq _ _ _) ?_))
     simp only [std_wrp,std_zsub,len_enc,h3];rfl
   ·cases (decide (c.length≤i)||mkBad c mks i) with
    | true=>exact cnT rfl rfl
    | false=>exact cnF rfl (by simp only [std_wrp,std_zadd,wrap1 hi hl];rfl))
  (by unfold Z53L0;exact cnF (by simp) rfl)
 unfold Z53
 refine bt e ?_
 unfold isMk
 by_cases hlen:mks.length=c.length
 ·rw [hlen,any_congrR (q:=mkBad c mks) (fun i hi=>by rw [decide_eq_false (by omega),Bool.false_or])]
  cases (List.range c.length).any (mkBad c mks) with
  | true=>simp
  | false=>simp [hlen]
 ·rw [decide_eq_false hlen,Bool.false_and]
  cases hb:(List.range mks.length).any fun i=>decide (c.length≤i)||mkBad c mks i with
  | true=>rfl
  | false=>simp;omega
end
def orderOf (c:Code) (u:Tab) (sch mks:List Int):List Int×Int :=
 bif decide (codeE c u=0) then (bif isMk c mks then (bif (doneS c u sch mks).2 then (bif ordOk u (doneS c u sch mks).1 then (cN' (ordN (doneS c u sch mks).1),0) else ([],5)) else ([],2)) else ([],2)) else ([],codeE c u)
section
variable {c:Code} (hc:CodeOk c) {u:Tab} (hut:TabOk u) {sch:List Int} (hl:sch.length<Lg) {mks:List Int} (hlm:mks.length<Lg)
include hc hut hl hlm
theorem done_facts (hmk:MkOk c mks) (hv:vCode c=true) (hu:vUse c u=true):MInv c u (doneS c u sch mks).1∧(doneS c u sch mks).1.st≤12∧(doneS c u sch mks).1.ms.length=(doneS c u sch mks).1.h.length∧(doneS c u sch mks).1.h.length≤12:=by
 have hI:MInv c u (doneS c u sch mks).1∧(doneS c u sch mks).1.st≤12:=by
  unfold doneS
  by_cases h:12<sch.length
  ·rw [decide_eq_true h];exact ⟨minv0 c u,by simp [mc0]⟩
  ·rw [decide_eq_false h]
   refine ⟨runS_inv mks hmk hv hu sch mc0 (minv0 c u),?_⟩
   have:=runS_len c u mks sch mc0 (minv0 c u) hmk hv hu
   have e:mc0.st=0:=rfl
   show (runS c u mks sch mc0).1.st≤12
   omega
 refine ⟨hI.1,hI.2,hI.1.ms,?_⟩
 have:=hI.1.st
 omega
theorem isMk_ok (h:isMk c mks=true):MkOk c mks:=by
 unfold isMk at h
 rw [Bool.and_eq_true,decide_eq_true_eq] at h
 exact .inr h.1
theorem Z26_eq:Z26 Ar.std (eCode c) (eTab u) (eInts sch) (eInts mks)=some (eInts (orderOf c u sch mks).1,(orderOf c u sch mks).2):=by
 unfold Z26 orderOf
 refine bt (Z40_eq c hc u hut) ?_
 by_cases he:codeE c u=0
 ·obtain ⟨hv,hu⟩:=codeE_ok he
  rw [decide_eq_true he,cond_true]
  refine cnT (by simp [he]) (bt (Z53_eq hc hlm) ?_)
  cases hm:isMk c mks with
  | false=>rfl
  | true =>
    have hmk:=isMk_ok hc hut hl hlm hm
    obtain ⟨f1,f2,f3,f4⟩:=done_facts hc hut hl hlm hmk hv hu
    obtain ⟨g1,g2⟩:=doneS_mki (c:=c) (u:=u) mks sch
    refine cnT rfl (bt (Z69_eq mks hmk hv hu sch hl) ?_)
    dsimp only
    cases hd:(doneS c u sch mks).2 with
    | false=>rfl
    | true =>
      refine cnT rfl (bt (Z56_eq g1 f3 (by omega) (ulen mks hmk hv hu) (by omega) (eCode c)) ?_)
      cases ordOk u (doneS c u sch mks).1 with
      | false=>rfl
      | true=>rfl
 ·rw [decide_eq_false he,cond_false]
  exact cnF (by simp [he]) rfl
end
def linB (s:Spec) (h:List Call):Bool:=decide (errH [s] h=0) && !(ords0 [s] h).isEmpty
def breakR (s:Spec) (c:Code) (u:Tab) (sch:List Int):Bool×Int :=
 bif decide (specE s c u=0) then (bif (doneS c u sch []).2 then (!linB s (doneS c u sch []).1.h,0) else (false,2)) else (false,specE s c u)
theorem specE_0 {s:Spec} {c:Code} {u:Tab} (h:specE s c u=0):codeE c u=0:=by
 unfold specE at h;unfold codeE
 cases hv:vCode c with
 | false=>rw [hv] at h;simp at h
 | true =>
   rw [hv] at h
   cases hs:specOk s&&decide (s.2.1=(c.length:Int)) with
   | false=>rw [hs] at h;simp at h
   | true=>rw [hs] at h;exact h
section
variable {s:Spec} (hs:TabOk s.2.2.1∧TabOk s.2.2.2)
include hs
theorem specs1:SpecsOk [s]:=⟨by show 1<9223372036854775808;decide,fun x hx=>by rw [List.mem_singleton] at hx;subst hx;exact hs⟩
theorem Z38_eq (h:List Call) (hl:h.length<Lg):Z38 Ar.std s.1 s.2.1 (eTab s.2.2.1) (eTab s.2.2.2) (eCalls h)=some (linB s h):=by
 unfold Z38
 have e:=Z85_eq [s] h (specs1 hs) hl
 refine bt e (bt (v:=linB s h) ?_ rfl)
 unfold linB
 by_cases he:errH [s] h=0
 ·exact cnT (by simp [he]) rfl
 ·rw [decide_eq_false he,Bool.false_and]
  exact cnF (by simp [he]) rfl
section
variable {c:Code} (hc:CodeOk c) {u:Tab} (hut:TabOk u) {sch:List Int} (hl:sch.length<Lg)
include hc hut hl
theorem done_h:(doneS c u sch []).1.h.length<Lg∨codeE c u≠0:=by
 by_cases he:codeE c u=0
 ·obtain ⟨hv,hu⟩:=codeE_ok he
  have:=done_facts hc hut hl (mks:=[]) (by decide) (.inl rfl) hv hu
  exact .inl (Nat.lt_of_le_of_lt this.2.2.2 (by decide))
 ·exact .inr he
theorem Z24_eq:Z24 Ar.std s.1 s.2.1 (eTab s.2.2.1) (eTab s.2.2.2) (eCode c) (eTab u) (eInts sch)=some (breakR s c u sch):=by
 unfold Z24 breakR
 refine bt (Z33_eq s hs c hc u hut) ?_
 by_cases he:specE s c u=0
 ·have he2:=specE_0 he
  have hlen:=(done_h hs hc hut hl).resolve_right (fun h=>h he2)
  rw [decide_eq_true he,cond_true]
  refine cnT (by simp [he]) (bt (Z15_eq hc hut hl) ?_)
  unfold runOf
  rw [decide_eq_true he2,cond_true]
  cases (doneS c u sch []).2 with
  | false=>rfl
  | true=>exact bt (v := !linB s (doneS c u sch []).1.h) (cnT rfl (bt (Z38_eq hs _ hlen) rfl)) rfl
 ·rw [decide_eq_false he,cond_false]
  exact cnF (by simp [he]) rfl
end
end
end Go.Am

set_option maxRecDepth 100000
set_option maxHeartbeats 1000000
set_option linter.unusedVariables false
set_option linter.unusedSimpArgs false
set_option linter.unusedSectionVars false
namespace Go.Am
open Go
def isCaseB (s:Spec) (c:Code) (u:Tab):Bool := !largeX s c u&&(vCode c&&(specOk s&&(decide (s.2.1=(c.length:Int))&&vUse c u)))
theorem Z8_eq (s:Spec) (hs:TabOk s.2.2.1∧TabOk s.2.2.2) (c:Code) (hc:CodeOk c) (u:Tab) (hu:TabOk u):Z8 Ar.std s.1 s.2.1 (eTab s.2.2.1) (eTab s.2.2.2) (eCode c) (eTab u)=some (isCaseB s c u):=by
 unfold Z8 isCaseB
 refine bt (bt (Z18_eq s hs c hc u hu) ?_) rfl
 cases largeX s c u with
 | true=>rfl
 | false =>
   refine cnF rfl (bt (Z30_eq c hc) ?_)
   cases vCode c with
   | false=>rfl
   | true =>
     refine cnT rfl (bt (Z31_eq s hs.1 hs.2) ?_)
     cases specOk s with
     | false=>rfl
     | true =>
       refine cnT rfl ?_
       rw [len_eCode]
       cases hd:decide (s.2.1=(c.length:Int)) with
       | false=>exact cnF hd rfl
       | true=>exact cnT hd (bt (Z32_eq c hc u hu) rfl)
section
variable {c:Code} (hc:CodeOk c) {u:Tab} (hu':TabOk u) (hv:vCode c=true) (hu:vUse c u=true)
include hc hu' hv hu
omit hc hu' in
theorem runOf_ok {α:Type} (sch:List Int) (hl:sch.length≤12) (hd:(runS c u [] sch mc0).2=true) (f:Mc→α) (no:α):runOf c u sch f no=(f (runS c u [] sch mc0).1,0):=by
 have e:codeE c u=0:=by unfold codeE;rw [hv,hu];rfl
 have e2:doneS c u sch []=runS c u [] sch mc0:=by unfold doneS;rw [decide_eq_false (by omega)];rfl
 unfold runOf
 rw [e,e2,hd];rfl
omit hc hu' hv hu in
theorem leftM_has {m:Mc} {p:Int} (h:p∈leftM u m):hasM u p m=true:=by
 unfold leftM at h
 rw [List.mem_map] at h
 obtain ⟨t,ht,rfl⟩:=h
 exact (List.mem_filter.1 ht).2
theorem Z28_eq (x1 x2:Int) (x3 x4:List D) (bs:List Int) (hb : ∀ n∈bs,0≤n∧n<256) :
  ∃ sch,Z28 Ar.std x1 x2 x3 x4 (eCode c) (eTab u) (enc (cI .u8) bs) 12=some (eInts sch,decide ((leftM u (runS c u [] sch mc0).1).length=0),true)∧sch.length≤12∧(runS c u [] sch mc0).2=true:=by
 have h20 : ∀ sch:List Int,sch.length≤12→(runS c u [] sch mc0).2=true→Z71 Ar.std (eCode c) (eTab u) (eInts sch)=some (eInts (leftM u (runS c u [] sch mc0).1),0):=by
  intro sch hl hd
  have:=Z71_eq hc hu' (sch:=sch) (Nat.lt_of_le_of_lt hl (by show 12<9223372036854775808;decide))
  unfold runOf at this
  have e:codeE c u=0:=by unfold codeE;rw [hv,hu];rfl
  have e2:doneS c u sch []=runS c u [] sch mc0:=by unfold doneS;rw [decide_eq_false (by omega)];rfl
  rw [e,e2,hd] at this
  exact this
 have key : ∀ (k i:Nat) (sch:List Int),i+k=12→sch.length=i→(runS c u [] sch mc0).2=true →
   ∃ sch',(iter (Z28L0 Ar.std (eCode c) (eTab u) (enc (cI .u8) bs) 12) (eInts sch,(i:Int))=some (.inl (eInts sch')) ∨
     (iter (Z28L0 Ar.std (eCode c) (eTab u) (enc (cI .u8) bs) 12) (eInts sch,(i:Int))=some (.inr (eInts sch',true,true))∧(leftM u (runS c u [] sch' mc0).1).length=0))∧sch'.length≤12∧(runS c u [] sch' mc0).2=true:=by
  intro k
  induction k with
  | zero =>
    intro i sch hi hl hd
    refine ⟨sch,.inl (iter_inr ?_),by omega,hd⟩
    unfold Z28L0
    exact cnF (by simp;omega) rfl
  | succ k ih =>
    intro i sch hi hl hd
    have h12:Ar.std.zlt (i:Int) 12=true:=by simp;omega
    have hC:=h20 sch (by omega) hd
    by_cases hn:(leftM u (runS c u [] sch mc0).1).length=0
    ·refine ⟨sch,.inr ⟨iter_inr ?_,hn⟩,by omega,hd⟩
     unfold Z28L0
     exact cnT h12 (bt hC (cnT rfl (cnT (by simp [List.length_eq_zero_iff.1 hn]) rfl)))
    ·obtain ⟨p,hp,hpick⟩ : ∃ p,p∈leftM u (runS c u [] sch mc0).1∧((gc Ar.std (cI .i64) (eInts (leftM u (runS c u [] sch mc0).1)) 0).bind fun a47 =>
       (bif Ar.std.zlt (i:Int) (Ar.std.len (enc (cI .u8) bs)) then
        (gt Ar.std (cI .u8) (enc (cI .u8) bs) (i:Int)).bind fun a51 =>
        (nk (Ar.std.zeq (Ar.std.len (eInts (leftM u (runS c u [] sch mc0).1))) 0)).bind fun _ =>
        (gt Ar.std (cI .i64) (eInts (leftM u (runS c u [] sch mc0).1)) (Ar.std.rem (Ar.std.wrp .i64 a51) (Ar.std.len (eInts (leftM u (runS c u [] sch mc0).1))))).bind fun a57 =>
        some a57
       else some a47:Option Int))=some p:=by
      generalize leftM u (runS c u [] sch mc0).1=l at hn
      have h0:0<l.length:=by omega
      have e0:gc Ar.std (cI .i64) (eInts l) 0=some l[0]:=gc_enc (c:=cI .i64) (i:=0) (List.getElem?_eq_getElem h0)
      by_cases hib:i<bs.length
      ·have hbi:=hb _ (List.getElem_mem hib)
       have e1:gt Ar.std (cI .u8) (enc (cI .u8) bs) (i:Int)=some bs[i]:=gt_enc (List.getElem?_eq_getElem hib)
       generalize bs[i]=b at hbi e1
       have hw:IntKind.i64.wrap b=b:=w64 (by omega) (by omega)
       have hq0:0≤b.tmod (l.length:Int):=by rw [Int.tmod_eq_emod_of_nonneg hbi.1];exact Int.emod_nonneg _ (by omega)
       have hq1:b.tmod (l.length:Int)<l.length:=by rw [Int.tmod_eq_emod_of_nonneg hbi.1];exact Int.emod_lt_of_pos _ (by omega)
       have hlt:(b.tmod (l.length:Int)).toNat<l.length:=by omega
       refine ⟨l[(b.tmod (l.length:Int)).toNat],List.getElem_mem hlt,bt e0 (cnT (by simp;exact hib) (bt e1 (bt (nk_of (by rw [len_enc];exact decide_eq_false (by omega))) ?_)))⟩
       simp only [std_rem,std_wrp,hw,len_enc]
       exact bt (gt_encI (c:=cI .i64) hq0 (List.getElem?_eq_getElem hlt)) rfl
      ·exact ⟨l[0],List.getElem_mem h0,bt e0 (cnF (by simp;omega) rfl)⟩
     have hh:=leftM_has hp
     have hh':=hh
     simp only [hasM,Bool.and_eq_true,btw_true,decide_eq_true_eq] at hh'
     have hd2:(runS c u [] (sch++[p]) mc0).2=true:=by
      rw [runS_app,hd,cond_true]
      unfold runS
      rw [hh];rfl
     obtain ⟨sch',hs1,hs2,hs3⟩:=ih (i+1) (sch++[p]) (by omega) (by simp [hl]) hd2
     have hstep:Z28L0 Ar.std (eCode c) (eTab u) (enc (cI .u8) bs) 12 (eInts sch,(i:Int))=some (.inl (eInts (sch++[p]),((i+1:Nat):Int))):=by
      unfold Z28L0
      refine cnT h12 (bt hC (cnT rfl (cnF (by simp;intro h;exact hn (by rw [h];rfl)) ?_)))
      cases h47:gc Ar.std (cI .i64) (eInts (leftM u (runS c u [] sch mc0).1)) 0 with
      | none=>rw [h47] at hpick;cases hpick
      | some a47 =>
        rw [h47,bsome] at hpick
        refine bt (v:=a47) rfl (bt hpick (bt (v:=false) (cnF (decide_eq_false (by omega)) (by rw [len_eTab];exact congrArg some (decide_eq_false (by omega)))) (cnF rfl (bt (ap_enc1 (c:=cI .i64) rfl (by omega)) ?_))))
        simp only [std_wrp,std_zadd]
        rw [w64 (by omega) (by omega)];rfl
     refine ⟨sch',?_,hs2,hs3⟩
     rw [iter_inl hstep]
     exact hs1
 obtain ⟨sch,h1,h2,h3⟩:=key 12 0 [] rfl rfl rfl
 refine ⟨sch,?_,h2,h3⟩
 unfold Z28
 rcases h1 with h1 | ⟨h1,hn⟩
 ·refine bt h1 (bt (h20 sch h2 h3) ?_)
  dsimp only
  rw [len_enc]
  have:Ar.std.zeq ((leftM u (runS c u [] sch mc0).1).length:Int) 0=decide ((leftM u (runS c u [] sch mc0).1).length=0):=by
   simp only [std_zeq];exact decide_eq_decide.2 ⟨fun h=>by omega,fun h=>by omega⟩
  rw [this];rfl
 ·refine bt h1 ?_
  rw [hn];rfl
end
end Go.Am
