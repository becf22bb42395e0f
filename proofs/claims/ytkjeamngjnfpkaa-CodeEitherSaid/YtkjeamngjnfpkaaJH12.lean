/- Own text: JH12. -/
import Derived.Test.YtkjeamngjnfpkaaJH9
set_option maxRecDepth 100000
set_option linter.unusedVariables false
set_option linter.unusedSimpArgs false
namespace Go.Am
open Go
section
variable {h:List Call}
end
section
variable (S:List Spec) (h:List Call) (hs:SpecsOk S) (hl:h.length<Lg) (l:List Int) (hll:l.length<Lg)
include hl hll
include hs
end
end Go.Am

namespace Go.Am
open Go
section
variable (S:List Spec) (h:List Call) (must:Call->Call->Bool)
def isFrom:Nat->Int×Int->List Nat->Prop
 | m,_,[]=>endsM h m=true
 | m,s,i::l => ∃ p,nextM S h must m s i=some p/\isFrom p.1 p.2 l
end
section
variable {S:List Spec} {h:List Call} {must:Call->Call->Bool}
theorem mem_ords : ∀ (l:List Nat) (m:Nat) (s:Int×Int),l∈ords S h must m s↔isFrom S h must m s l
 | [],m,s=>by
   rw [ords_eq]
   simp only [List.mem_append,List.mem_flatMap,isFrom]
   constructor
   ·rintro (hx | ⟨i,_,hx⟩)
    ·cases he:endsM h m <;> rw [he] at hx <;> simp at hx ⊢
    ·cases hn:nextM S h must m s i <;> rw [hn] at hx <;> simp at hx
   ·intro he;rw [he];exact .inl (by simp)
 | i::l,m,s=>by
   rw [ords_eq]
   simp only [List.mem_append,List.mem_flatMap,isFrom]
   constructor
   ·rintro (hx | ⟨j,_,hx⟩)
    ·cases he:endsM h m <;> rw [he] at hx <;> simp at hx
    ·cases hn:nextM S h must m s j with
     | none=>rw [hn] at hx;simp at hx
     | some p =>
       rw [hn] at hx
       simp only [Option.map_some,Option.getD_some,List.mem_map,List.cons.injEq] at hx
       obtain ⟨y,hy,e1,e2⟩:=hx
       subst e1
       rw [e2] at hy
       exact ⟨p,hn,(mem_ords l p.1 p.2).1 hy⟩
   ·rintro ⟨p,hn,hf⟩
    refine .inr ⟨i,?_,?_⟩
    ·obtain ⟨c,_,hi,_⟩:=nextM_some hn
     exact List.mem_range.2 hi
    ·rw [hn]
     simp only [Option.map_some,Option.getD_some,List.mem_map,List.cons.injEq]
     exact ⟨l,(mem_ords l p.1 p.2).2 hf,trivial,rfl⟩
theorem keepsL_iff (must:Call->Call->Bool) (h:List Call) (l:List Int):keepsL must h l=true↔l.Pairwise fun y x=>must (hc h x) (hc h y)=false:=by
 induction l using snoc_ind with
 | h0=>simp [keepsL]
 | h1 l a ih =>
   rw [keepsL_snoc,zp4,ih,List.pairwise_append]
   simp only [List.pairwise_singleton,List.mem_singleton,forall_eq,true_and,Bool.not_eq_true',List.any_eq_false,Bool.not_eq_true]
theorem full_iff {l:List Int}:full h l=true ↔ ∀ (i:Nat) c,h[i]?=some c->c.to≠0->(i:Int)∈l:=by
 simp only [full,Bool.not_eq_true',List.any_eq_false,List.mem_range]
 constructor
 ·intro hf i c hc hto
  have:=hf i (zp2.1 hc).1
  rw [hc] at this
  simp only [Option.map_some,Option.getD_some,zp4,decide_eq_true_eq,Bool.not_eq_true',not_and,Bool.not_eq_false,List.contains_iff_mem] at this
  exact this hto
 ·intro hf i hi
  have hc:=zp1 hi
  rw [hc]
  simp only [Option.map_some,Option.getD_some,zp4,decide_eq_true_eq,Bool.not_eq_true',not_and,Bool.not_eq_false,List.contains_iff_mem]
  exact hf i _ hc
def isOrdM (S:List Spec) (h:List Call) (must:Call->Call->Bool) (l:List Int):Bool:=isL h l&&(keepsL must h l&&allowsL S h l)
theorem allowsF_app (S:List Spec) (h:List Call) : ∀ (l m:List Int) (s:Int×Int),allowsF S h (l++m) s=(allowsF S h l s&&allowsF S h m (l.foldl (fun s x=>doS S (hc h x) s) s))
 | [],m,s=>by simp [allowsF]
 | x::l,m,s=>by simp only [List.cons_append,allowsF,allowsF_app S h l m,List.foldl_cons,Bool.and_assoc]
theorem runL_cN (S:List Spec) (h:List Call) (l:List Nat):(cN l).foldl (fun s x=>doS S (hc h x) s) (0,0)=runL S h l:=by
 unfold cN runL;rw [List.foldl_map]
theorem nodup_cN {l:List Nat}:(cN l).Nodup↔l.Nodup:=by
 unfold cN
 constructor
 ·intro hn
  induction l with
  | nil=>simp
  | cons a l ih =>
    simp only [List.map_cons,List.nodup_cons,List.mem_map,not_exists,not_and] at hn ⊢
    exact ⟨fun ha=>hn.1 a ha rfl,ih hn.2⟩
 ·intro hn
  induction l with
  | nil=>simp
  | cons a l ih =>
    simp only [List.map_cons,List.nodup_cons,List.mem_map,not_exists,not_and] at hn ⊢
    exact ⟨fun b hb e=>hn.1 (by have:b=a:=by omega
                                rw [<-this];exact hb),ih hn.2⟩
theorem from_isOrd (hok : ∀ c∈h,callOk c=true) (hm:MustOk must h) : ∀ (l2 l1:List Nat),nums h (cN l1)=true->allowsL S h (cN l1)=true->keepsL must h (cN l1)=true->closed must h (maskL l1) ->
  (isFrom S h must (maskL l1) (runL S h l1) l2↔isOrdM S h must (cN (l1++l2))=true)
 | [],l1,hn,ha,hk,hcl=>by
   rw [List.append_nil]
   simp only [isFrom,isOrdM,hk,ha,Bool.and_true]
   rw [isL_ends hok hn]
 | i::l2,l1,hn,ha,hk,hcl=>by
   have hrange : ∀ x∈cN l1,inH h x=true:=(nums_iff.1 hn).1
   simp only [isFrom]
   have happ:l1++i::l2=(l1++[i])++l2:=by simp
   constructor
   ·rintro ⟨p,hnx,hf⟩
    obtain ⟨c,hci,hi,ht,hfr,hos,rfl⟩:=nextM_some hnx
    have hhc:=hc_nat hci
    have hil:i∉l1:=by rw [maskL_test] at ht;simpa using ht
    have h1:nums h (cN (l1++[i]))=true:=by
     rw [cN_snoc,nums_iff]
     obtain ⟨n1,n2⟩:=nums_iff.1 hn
     refine ⟨fun x hx => ?_,?_⟩
     ·rw [List.mem_append,List.mem_singleton] at hx
      rcases hx with hx | rfl
      ·exact n1 x hx
      ·exact inH_iff.2 ⟨by omega,by omega⟩
     ·rw [List.nodup_append]
      refine ⟨n2,by simp,fun x hx y hy => ?_⟩
      rw [List.mem_singleton] at hy;subst hy
      rintro rfl
      exact hil (cN_mem.1 hx)
    have h2:allowsL S h (cN (l1++[i]))=true:=by rw [allowsL_snoc,ha,hhc,hos];rfl
    have h3:keepsL must h (cN (l1++[i]))=true:=by
     rw [cN_snoc,keepsL_snoc,hk,hhc,Bool.true_and,Bool.not_eq_true',List.any_eq_false]
     intro y hy
     obtain ⟨j,hj,rfl⟩:=List.mem_map.1 hy
     have:=hcl i j c (hc h (j:Int)) hci (by have:=hc_get (hrange _ hy);simpa using this) (by rw [maskL_test];simpa using hj) ht
     simp [this]
    have h4:closed must h (maskL (l1++[i])):=by rw [maskL_snoc];exact closed_ins hcl hci hfr
    have:=(from_isOrd hok hm l2 (l1++[i]) h1 h2 h3 h4).1 (by rw [maskL_snoc,runL_snoc,hhc];exact hf)
    rw [happ];exact this
   ·intro ho
    have ho':=ho
    simp only [isOrdM,isL,zp4] at ho
    obtain ⟨⟨o1,o2⟩,o3,o4⟩:=ho
    obtain ⟨n1,n2⟩:=nums_iff.1 o1
    have hmem:(i:Int)∈cN (l1++i::l2):=cN_mem.2 (by simp)
    have hii:=inH_iff.1 (n1 _ hmem)
    have hi:i<h.length:=by omega
    have hci:=zp1 hi
    have hcm:=zp6 hi
    generalize h[i]=c at hci hcm
    have hhc:=hc_nat hci
    have hnd:=nodup_cN.1 n2
    have hil:i∉l1:=by
     rw [List.nodup_append] at hnd
     intro hx
     exact hnd.2.2 i hx i (by simp) rfl
    have ht:(maskL l1).testBit i=false:=by rw [maskL_test];simpa using hil
    have hk2:=(keepsL_iff must h _).1 o3
    have hos:okS S c (runL S h l1)=true:=by
     unfold allowsL at o4
     rw [show cN (l1++i::l2)=cN l1++(i:Int)::cN l2 by simp [cN],allowsF_app,zp4,runL_cN] at o4
     have:=o4.2
     simp only [allowsF,zp4,hhc] at this
     exact this.1
    have hfr:freeM h must (maskL l1) i c=true:=by
     simp only [freeM,ht,Bool.not_false,Bool.true_and,List.all_eq_true,List.mem_range]
     intro k hkl
     have hck:=zp1 hkl
     have hckm:=zp6 hkl
     generalize h[k]=d at hck hckm
     rw [hck]
     simp only [Option.map_some,Option.getD_some,Bool.or_eq_true,Bool.not_eq_true']
     by_cases hkin:k∈l1
     ·left;rw [maskL_test];simpa using hkin
     ·right
      cases hmu:must d c with
      | false=>rfl
      | true =>
        exfalso
        have hret:=hm.ret d hckm c hcm hmu
        have hkm:=cN_mem.1 (full_iff.1 o2 k d hck (by omega))
        have hne:k≠i:=by
         rintro rfl
         rw [hck] at hci;cases hci
         rw [hm.irr _ hckm] at hmu;cases hmu
        have hk3:k∈l2:=by
         rw [List.mem_append,List.mem_cons] at hkm
         rcases hkm with h | h | h
         ·exact absurd h hkin
         ·exact absurd h hne
         ·exact h
        rw [show cN (l1++i::l2)=cN l1++(i:Int)::cN l2 by simp [cN],List.pairwise_append] at hk2
        have:=hk2.2.1
        rw [List.pairwise_cons] at this
        have:=this.1 (k:Int) (cN_mem.2 hk3)
        rw [hc_nat hck,hhc,hmu] at this
        cases this
    have hnx:nextM S h must (maskL l1) (runL S h l1) i=some (ins (maskL l1) i,doS S c (runL S h l1)):=by simp [nextM,hci,hfr,hos]
    refine ⟨_,hnx,?_⟩
    have h1:nums h (cN (l1++[i]))=true:=by
     rw [nums_iff]
     refine ⟨fun x hx=>n1 x ?_,nodup_cN.2 ?_⟩
     ·rw [happ,show cN (l1++[i]++l2)=cN (l1++[i])++cN l2 by simp [cN]];exact List.mem_append_left _ hx
     ·rw [happ] at hnd;exact (List.nodup_append.1 hnd).1
    have h2:allowsL S h (cN (l1++[i]))=true:=by rw [allowsL_snoc,ha,hhc,hos];rfl
    have h3:keepsL must h (cN (l1++[i]))=true:=by
     rw [keepsL_iff]
     rw [happ,show cN (l1++[i]++l2)=cN (l1++[i])++cN l2 by simp [cN],List.pairwise_append] at hk2
     exact hk2.1
    have h4:closed must h (maskL (l1++[i])):=by rw [maskL_snoc];exact closed_ins hcl hci hfr
    have:=(from_isOrd hok hm l2 (l1++[i]) h1 h2 h3 h4).2 (by rw [happ] at ho';exact ho')
    rw [maskL_snoc,runL_snoc,hhc] at this
    exact this
theorem mem_ords0 (hok : ∀ c∈h,callOk c=true) (hm:MustOk must h) (l:List Nat):l∈ords S h must 0 (0,0)↔isOrdM S h must (cN l)=true:=by
 rw [mem_ords]
 have:=from_isOrd (S:=S) hok hm l [] rfl rfl rfl (fun k i c d _ _ hb _=>by simp [maskL] at hb)
 exact this
end
end Go.Am
