import Derived.Test.YtkjeamngjnfpkaaGreatZH9
set_option maxRecDepth 100000
set_option linter.unusedVariables false
set_option linter.unusedSimpArgs false
namespace Go.Am
open Go
section
variable {h:List Call}
end
def b8U (S:List Spec) (h:List Call) (l:List Int):Bool:=isL h l&&(a2t bef h l&&a2a S h l)
section
variable (S:List Spec) (h:List Call) (hs:a1Y S) (hl:h.length<Lg) (l:List Int) (hll:l.length<Lg)
include hl hll
include hs
end
section
variable (S:List Spec) (h:List Call) (must:Call->Call->Bool)
def a7d:Nat->Int×Int->List Nat->Prop
 | m,_,[]=>a1L h m=true
 | m,s,i::l => ∃ p,a1I S h must m s i=some p/\a7d p.1 p.2 l
end
section
variable {S:List Spec} {h:List Call} {must:Call->Call->Bool}
theorem a8C : ∀ (l:List Nat) (m:Nat) (s:Int×Int),l∈a3Q S h must m s↔a7d S h must m s l
 | [],m,s=>by
   rw [a8x];simp only [List.mem_append,List.mem_flatMap,a7d];constructor
   ·rintro (hx | ⟨i,_,hx⟩)
    ·cases he:a1L h m <;> rw [he] at hx <;> simp at hx ⊢
    cases hn:a1I S h must m s i <;> rw [hn] at hx <;> simp at hx
   intro he;rw [he];exact .inl (by simp)
 | i::l,m,s=>by
   rw [a8x];simp only [List.mem_append,List.mem_flatMap,a7d];constructor
   ·rintro (hx | ⟨j,_,hx⟩)
    ·cases he:a1L h m <;> rw [he] at hx <;> simp at hx
    cases hn:a1I S h must m s j with
    | none=>rw [hn] at hx;simp at hx
    | some p =>
      rw [hn] at hx;simp only [Option.map_some,Option.getD_some,List.mem_map,List.cons.injEq] at hx;obtain ⟨y,hy,e1,e2⟩:=hx;subst e1;rw [e2] at hy;exact ⟨p,hn,(a8C l p.1 p.2).1 hy⟩
   rintro ⟨p,hn,hf⟩;refine .inr ⟨i,?_,?_⟩
   ·obtain ⟨c,_,hi,_⟩:=a4r hn;exact List.mem_range.2 hi
   rw [hn];simp only [Option.map_some,Option.getD_some,List.mem_map,List.cons.injEq];exact ⟨l,(a8C l p.1 p.2).2 hf,trivial,rfl⟩
theorem a5F (must:Call->Call->Bool) (h:List Call) (l:List Int):a2t must h l=true↔l.Pairwise fun y x=>must (hc h x) (hc h y)=false:=by
 induction l using a8A with
 | h0=>simp [a2t]
 | h1 l a ih =>
   rw [a3G,zp4,ih,List.pairwise_append];simp only [List.pairwise_singleton,List.mem_singleton,forall_eq,true_and,Bool.not_eq_true',List.any_eq_false,Bool.not_eq_true]
theorem b1G {l:List Int}:full h l=true ↔ ∀ (i:Nat) c,h[i]?=some c->c.to≠0->(i:Int)∈l:=by
 simp only [full,Bool.not_eq_true',List.any_eq_false,List.mem_range];constructor
 ·intro hf i c hc hto;have:=hf i (zp2.1 hc).1;rw [hc] at this;simp only [Option.map_some,Option.getD_some,zp4,decide_eq_true_eq,Bool.not_eq_true',not_and,Bool.not_eq_false,List.contains_iff_mem] at this;exact this hto
 intro hf i hi;have hc:=zp1 hi;rw [hc];simp only [Option.map_some,Option.getD_some,zp4,decide_eq_true_eq,Bool.not_eq_true',not_and,Bool.not_eq_false,List.contains_iff_mem];exact hf i _ hc
def b1H (S:List Spec) (h:List Call) (must:Call->Call->Bool) (l:List Int):Bool:=isL h l&&(a2t must h l&&a2a S h l)
theorem a7e (S:List Spec) (h:List Call) : ∀ (l m:List Int) (s:Int×Int),a1z S h (l++m) s=(a1z S h l s&&a1z S h m (l.foldl (fun s x=>doS S (hc h x) s) s))
 | [],m,s=>by simp [a1z]
 | x::l,m,s=>by simp only [List.cons_append,a1z,a7e S h l m,List.foldl_cons,Bool.and_assoc]
theorem b8V (S:List Spec) (h:List Call) (l:List Nat):(cN l).foldl (fun s x=>doS S (hc h x) s) (0,0)=a3e S h l:=by
 unfold cN a3e;rw [List.foldl_map]
theorem a8D {l:List Nat}:(cN l).Nodup↔l.Nodup:=by
 unfold cN;constructor
 ·intro hn
  induction l with
  | nil=>simp
  | cons a l ih =>
    simp only [List.map_cons,List.nodup_cons,List.mem_map,not_exists,not_and] at hn ⊢;exact ⟨fun ha=>hn.1 a ha rfl,ih hn.2⟩
 intro hn
 induction l with
 | nil=>simp
 | cons a l ih =>
   simp only [List.map_cons,List.nodup_cons,List.mem_map,not_exists,not_and] at hn ⊢
   exact ⟨fun b hb e=>hn.1 (by have:b=a:=by omega
                               rw [<-this];exact hb),ih hn.2⟩
theorem a5G (hok : ∀ c∈h,a1r c=true) (hm:MustOk must h) : ∀ (l2 l1:List Nat),nums h (cN l1)=true->a2a S h (cN l1)=true->a2t must h (cN l1)=true->closed must h (a0B l1) ->
  (a7d S h must (a0B l1) (a3e S h l1) l2↔b1H S h must (cN (l1++l2))=true)
 | [],l1,hn,ha,hk,hcl=>by
   rw [List.append_nil];simp only [a7d,b1H,hk,ha,Bool.and_true];rw [b1D hok hn]
 | i::l2,l1,hn,ha,hk,hcl=>by
   have hrange : ∀ x∈cN l1,inH h x=true:=(a2o.1 hn).1;simp only [a7d];have happ:l1++i::l2=(l1++[i])++l2:=by simp
   constructor
   ·rintro ⟨p,hnx,hf⟩;obtain ⟨c,hci,hi,ht,hfr,hos,rfl⟩:=a4r hnx;have hhc:=a4D hci;have hil:i∉l1:=by rw [a1H] at ht;simpa using ht
    have h1:nums h (cN (l1++[i]))=true:=by
     rw [a4j,a2o];obtain ⟨n1,n2⟩:=a2o.1 hn;refine ⟨fun x hx => ?_,?_⟩
     ·rw [List.mem_append,List.mem_singleton] at hx;rcases hx with hx | rfl
      ·exact n1 x hx
      exact a1Z.2 ⟨by omega,by omega⟩
     rw [List.nodup_append];refine ⟨n2,by simp,fun x hx y hy => ?_⟩;rw [List.mem_singleton] at hy;subst hy;rintro rfl;exact hil (a5e.1 hx)
    have h2:a2a S h (cN (l1++[i]))=true:=by rw [a2Y,ha,hhc,hos];rfl
    have h3:a2t must h (cN (l1++[i]))=true:=by
     rw [a4j,a3G,hk,hhc,Bool.true_and,Bool.not_eq_true',List.any_eq_false];intro y hy;obtain ⟨j,hj,rfl⟩:=List.mem_map.1 hy;have:=hcl i j c (hc h (j:Int)) hci (by have:=a7T (hrange _ hy);simpa using this) (by rw [a1H];simpa using hj) ht;simp [this]
    have h4:closed must h (a0B (l1++[i])):=by rw [a0T];exact a5D hcl hci hfr
    have:=(a5G hok hm l2 (l1++[i]) h1 h2 h3 h4).1 (by rw [a0T,a5f,hhc];exact hf);rw [happ];exact this
   intro ho;have ho':=ho;simp only [b1H,isL,zp4] at ho;obtain ⟨⟨o1,o2⟩,o3,o4⟩:=ho;obtain ⟨n1,n2⟩:=a2o.1 o1;have hmem:(i:Int)∈cN (l1++i::l2):=a5e.2 (by simp);have hii:=a1Z.1 (n1 _ hmem);have hi:i<h.length:=by omega
   have hci:=zp1 hi;have hcm:=zp6 hi;generalize h[i]=c at hci hcm;have hhc:=a4D hci;have hnd:=a8D.1 n2;have hil:i∉l1:=by
    rw [List.nodup_append] at hnd;intro hx;exact hnd.2.2 i hx i (by simp) rfl
   have ht:(a0B l1).testBit i=false:=by rw [a1H];simpa using hil
   have hk2:=(a5F must h _).1 o3;have hos:okS S c (a3e S h l1)=true:=by
    unfold a2a at o4;rw [show cN (l1++i::l2)=cN l1++(i:Int)::cN l2 by simp [cN],a7e,zp4,b8V] at o4;have:=o4.2;simp only [a1z,zp4,hhc] at this;exact this.1
   have hfr:a4w h must (a0B l1) i c=true:=by
    simp only [a4w,ht,Bool.not_false,Bool.true_and,List.all_eq_true,List.mem_range];intro k hkl;have hck:=zp1 hkl;have hckm:=zp6 hkl;generalize h[k]=d at hck hckm;rw [hck];simp only [Option.map_some,Option.getD_some,Bool.or_eq_true,Bool.not_eq_true'];by_cases hkin:k∈l1
    ·left;rw [a1H];simpa using hkin
    right;cases hmu:must d c with
    | false=>rfl
    | true =>
      exfalso;have hret:=hm.ret d hckm c hcm hmu;have hkm:=a5e.1 (b1G.1 o2 k d hck (by omega));have hne:k≠i:=by
       rintro rfl;rw [hck] at hci;cases hci;rw [hm.irr _ hckm] at hmu;cases hmu
      have hk3:k∈l2:=by
       rw [List.mem_append,List.mem_cons] at hkm;rcases hkm with h | h | h
       ·exact absurd h hkin
       ·exact absurd h hne
       exact h
      rw [show cN (l1++i::l2)=cN l1++(i:Int)::cN l2 by simp [cN],List.pairwise_append] at hk2;have:=hk2.2.1;rw [List.pairwise_cons] at this;have:=this.1 (k:Int) (a5e.2 hk3);rw [a4D hck,hhc,hmu] at this;cases this
   have hnx:a1I S h must (a0B l1) (a3e S h l1) i=some (ins (a0B l1) i,doS S c (a3e S h l1)):=by simp [a1I,hci,hfr,hos]
   refine ⟨_,hnx,?_⟩;have h1:nums h (cN (l1++[i]))=true:=by
    rw [a2o];refine ⟨fun x hx=>n1 x ?_,a8D.2 ?_⟩
    ·rw [happ,show cN (l1++[i]++l2)=cN (l1++[i])++cN l2 by simp [cN]];exact List.mem_append_left _ hx
    rw [happ] at hnd;exact (List.nodup_append.1 hnd).1
   have h2:a2a S h (cN (l1++[i]))=true:=by rw [a2Y,ha,hhc,hos];rfl
   have h3:a2t must h (cN (l1++[i]))=true:=by
    rw [a5F];rw [happ,show cN (l1++[i]++l2)=cN (l1++[i])++cN l2 by simp [cN],List.pairwise_append] at hk2;exact hk2.1
   have h4:closed must h (a0B (l1++[i])):=by rw [a0T];exact a5D hcl hci hfr
   have:=(a5G hok hm l2 (l1++[i]) h1 h2 h3 h4).2 (by rw [happ] at ho';exact ho');rw [a0T,a5f,hhc] at this;exact this
theorem b4K (hok : ∀ c∈h,a1r c=true) (hm:MustOk must h) (l:List Nat):l∈a3Q S h must 0 (0,0)↔b1H S h must (cN l)=true:=by
 rw [a8C];have:=a5G (S:=S) hok hm l [] rfl rfl rfl (fun k i c d _ _ hb _=>by simp [a0B] at hb);exact this
end
end Go.Am
