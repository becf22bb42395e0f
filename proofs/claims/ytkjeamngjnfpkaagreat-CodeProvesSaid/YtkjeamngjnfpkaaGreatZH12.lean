/- Own text: ZH12. -/
import Derived.Test.YtkjeamngjnfpkaaGreatZH9
set_option maxRecDepth 100000
set_option linter.unusedVariables false
set_option linter.unusedSimpArgs false
namespace Go.Am
open Go
noncomputable def metM (pre:List Int):List (D×D):=pre.foldl (fun m x=>Am.mput m (.int .i64 x) (.bool true)) []
theorem metM_snoc (pre:List Int) (x:Int):metM (pre++[x])=Am.mput (metM pre) (.int .i64 x) (.bool true):=by simp [metM]
theorem metM_get (pre:List Int) (j:Int):Am.mget (metM pre) (.int .i64 j)=if pre.contains j then some (.bool true) else none:=by
 induction pre using snoc_ind with
 | h0=>rfl
 | h1 l a ih =>
   rw [metM_snoc,mget_mput,ih]
   by_cases h:a=j
   ·subst h;simp
   ·have h1 : ¬ (D.int .i64 a=D.int .i64 j):=fun e=>h (by simpa using e)
    have h2:(j == a)=false:=by simpa using fun e:j=a=>h e.symm
    rw [if_neg h1]
    have h3:(l++[a]).contains j=l.contains j:=by simp [List.contains_append,h2];exact fun e=>absurd e.symm h
    rw [h3]
theorem lk_met (pre:List Int) (j:Int):lk Ar.std cB (metM pre) (.int .i64 j)=some (bif pre.contains j then some true else none):=by
 have:=metM_get pre j
 show (Am.mget (metM pre) (.int .i64 j)).elim _ _=_
 rw [this]
 cases pre.contains j <;> simp
section
variable {h:List Call}
theorem Z73_eq (hl:h.length≤40) (hok : ∀ c∈h,callOk c=true) (l:List Int) (hll:l.length<Lg):Z73 Ar.std (eCalls h) (eInts l)=some (isL h l):=by
 have hlg:h.length<Lg:=(by omega:h.length<9223372036854775808)
 have hstop:=iter_stop (step:=Z73L0 Ar.std (eCalls h) (eInts l)) l.length (fun i=>((i:Int),metM (l.take i))) (numsAt h l) (metM (l.take l.length)) (fun i hi hb=>by
  have hx:=List.getElem?_eq_getElem hi
  generalize l[i]=x at hx
  have hbt:btw 0 x ((h.length:Int)-1)=inH h x:=rfl
  simp only [numsAt,hx,Option.map_some,Option.getD_some,Z73L0,std_zlt,len_enc,ltC hi,cond_true,gt_enc hx,bsome,Z107_eq h hlg,hbt,lk_met]
  cases hin:inH h x with
  | false=>exact ⟨fun h=>(by cases h),fun _=>⟨_,rfl⟩⟩
  | true =>
    cases hcn:(l.take i).contains x with
    | true=>exact ⟨fun h=>(by cases h),fun _=>⟨_,rfl⟩⟩
    | false =>
      refine ⟨fun _ => ?_,fun h=>(by cases h)⟩
      simp only [cond_true,cond_false,Option.elim_none,bsome,std_wrp,std_zadd,wrap1 hi hll,std_mput,take_succ_get hx,metM_snoc]) (fun hb=>by simp [Z73L0])
 have e0:((0:Int),([]:List (D×D)))=(((0:Nat):Int),metM (l.take 0)):=rfl
 unfold Z73
 rw [e0]
 rcases hstop with ⟨h1,_,h3⟩ | ⟨h1,z,h3⟩
 ·rw [h3]
  simp only [bsome,Sum.elim_inl,isL,nums,h1,Bool.not_false,Bool.true_and,List.take_length]
  have e1:iter (Z73L1 Ar.std (eCalls h) (metM l)) 0=some (bif (List.range h.length).any (fun i=>(h[i]?.map fun c=>decide (c.to≠0) && !l.contains (i:Int)).getD false) then .inr () else .inl ()):=by
   refine iter_rng h.length _ _ _ (fun i hi => ?_) ?_
   ·have hc:=List.getElem?_eq_getElem hi
    have hcm:=List.getElem_mem hi
    generalize h[i]=c at hc hcm
    have hto:decide (c.to≠0)=decide (0<c.2.2.2.2.2):=by have:=(callOk_iff c).1 (hok c hcm);simp only [Call.to] at *;rw [decide_eq_decide];omega
    simp only [Z73L1,std_zlt,len_enc,ltC hi,cond_true,gt_enc hc,bsome,lk_met,hc,Option.map_some,Option.getD_some,hto]
    simp only [std_wrp,std_zadd,wrap1 hi (show h.length<9223372036854775808 by omega)]
    cases decide (0<c.2.2.2.2.2) <;> cases l.contains (i:Int) <;> rfl
   ·simp [Z73L1]
  rw [e1]
  unfold full
  cases (List.range h.length).any _ <;> rfl
 ·rw [h3];simp [isL,nums,h1]
theorem Z74_eq (hok : ∀ c∈h,callOk c=true) (l:List Int) (hll:l.length<Lg) (hin : ∀ x∈l,inH h x=true):Z74 Ar.std (eCalls h) (eInts l)=some (keepsL bef h l):=by
 have e0 : ∀ (i:Nat) (x:Int),l[i]?=some x→iter (Z74L0 Ar.std (eCalls h) x (eInts (l.take i))) 0=some (bif (l.take i).any (fun y=>bef (hc h x) (hc h y)) then .inr () else .inl ()):=by
  intro i x hx
  have hxi:=hin x (List.mem_of_getElem? hx)
  refine iter_any (l.take i) _ _ _ (fun k y hy hk => ?_) (by simp [Z74L0])
  have hyi:=hin y (List.mem_of_mem_take (List.mem_of_getElem? hy))
  have hto:0≤(hc h x).to:=by have:=(callOk_iff _).1 (hok _ (hc_mem hxi));omega
  have hlt:(l.take i).length<9223372036854775808:=Nat.lt_of_le_of_lt (by simp;omega) hll
  simp only [Z74L0,std_zlt,len_enc,ltC hk,cond_true,gt_enc hy,bsome,gt_encI (inH_iff.1 hxi).1 (hc_get hxi),gt_encI (inH_iff.1 hyi).1 (hc_get hyi),Z75_eq _ _ hto,std_wrp,std_zadd,wrap1 hk hlt]
  cases bef (hc h x) (hc h y) <;> rfl
 have e:iter (Z74L1 Ar.std (eCalls h) (eInts l)) 0=some (bif (List.range l.length).any (keepsAt bef h l) then .inr () else .inl ()):=by
  refine iter_rng l.length _ _ _ (fun i hi => ?_) ?_
  ·have hx:=List.getElem?_eq_getElem hi
   generalize l[i]=x at hx
   simp only [Z74L1,std_zlt,len_enc,ltC hi,cond_true,gt_enc hx,sl_encT (Nat.le_of_lt hi),e0 i x hx,bsome,std_wrp,std_zadd,wrap1 hi hll,keepsAt,hx,Option.map_some,Option.getD_some]
   cases (l.take i).any _ <;> rfl
  ·simp [Z74L1]
 simp only [Z74,e,bsome,keepsL]
 cases (List.range l.length).any _ <;> rfl
theorem Z76_eq {S:List Spec} (ha:areS S=true) (hok : ∀ c∈h,callOk c=true∧callIn S c) (l:List Int) (hll:l.length<Lg) (hin : ∀ x∈l,inH h x=true):Z76 Ar.std (eSpecs S) (eCalls h) (eInts l)=some (allowsL S h l):=by
 have hloop:=iter_list (step:=Z76L0 Ar.std (eSpecs S) (eCalls h) (eInts l)) l (fun (s:Int×Int) i=>(s.1,s.2,(i:Int))) (fun s x=>bif okS S (hc h x) s then .inl (doS S (hc h x) s) else .inr (.inr ())) (fun s => .inl ()) (fun _ s=>stOk S s)
  (fun i x s hx hs=>by
   have hi:i<l.length:=(List.getElem?_eq_some_iff.1 hx).1
   have hxi:=hin x (List.mem_of_getElem? hx)
   have hcg:=hc_get hxi
   have hcm:=hc_mem hxi
   generalize hc h x=c at hcg hcm
   obtain ⟨hcok,hcin⟩:=hok c hcm
   have hst:Z76L0 Ar.std (eSpecs S) (eCalls h) (eInts l) (s.1,s.2,(i:Int))=some (bif okS S c s then .inl ((doS S c s).1,(doS S c s).2,((i+1:Nat):Int)) else .inr (.inr ())):=by
    simp only [Z76L0,std_zlt,len_enc,ltC hi,cond_true,gt_enc hx,gt_encI (inH_iff.1 hxi).1 hcg,bsome,Z108a_eq hcin hs,std_wrp,std_zadd,wrap1 hi hll]
    cases okS S c s <;> rfl
   rw [hst]
   cases hos:okS S c s with
   | true=>exact .inl ⟨_,rfl,doS_ok hcin hs,rfl⟩
   | false=>exact .inr ⟨_,rfl,rfl⟩)
  (fun s hs=>by simp [Z76L0]) (0,0) (stOk_zero ha)
 have hfold : ∀ (l:List Int) (s:Int×Int),foldE (fun s x=>bif okS S (hc h x) s then .inl (doS S (hc h x) s) else .inr (.inr ())) (fun s=>(.inl ():Unit⊕Unit)) l s=bif allowsF S h l s then .inl () else .inr ():=by
  intro l
  induction l with
  | nil=>intro s;rfl
  | cons x l ih =>
    intro s
    rw [foldE_cons]
    cases hos:okS S (hc h x) s with
    | true=>simp only [cond_true,Sum.elim_inl,ih,allowsF,hos,Bool.true_and]
    | false=>simp only [cond_false,Sum.elim_inr,allowsF,hos,Bool.false_and];rfl
 rw [hfold] at hloop
 have e0:((0:Int),(0:Int),(0:Int))=(((0,0):Int×Int).1,((0,0):Int×Int).2,((0:Nat):Int)):=rfl
 unfold Z76
 rw [e0,hloop]
 unfold allowsL
 cases allowsF S h l (0,0) <;> rfl
end
theorem isL_in {h:List Call} {l:List Int} (hn:isL h l=true) : ∀ x∈l,inH h x=true:=by
 unfold isL at hn
 rw [Bool.and_eq_true] at hn
 exact (nums_iff.1 hn.1).1
def isOrd (S:List Spec) (h:List Call) (l:List Int):Bool:=isL h l&&(keepsL bef h l&&allowsL S h l)
def isOrdR (S:List Spec) (h:List Call) (l:List Int):Bool×Int:=bif decide (errH S h=0) then (isOrd S h l,0) else (false,errH S h)
section
variable (S:List Spec) (h:List Call) (hs:SpecsOk S) (hl:h.length<Lg) (l:List Int) (hll:l.length<Lg)
include hl hll
include hs
theorem Z29_eq:Z29 Ar.std (eSpecs S) (eCalls h) (eInts l)=some (isOrdR S h l):=by
 simp only [Z29,Z72_eq S h hs hl,bsome,std_zeq,isOrdR]
 by_cases he:errH S h=0
 ·obtain ⟨ha,hf⟩:=errH_zero he
  obtain ⟨h8,hok⟩:=forH_in ha hf
  simp only [he,decide_true,cond_true,Z73_eq (show h.length≤40 by omega) (fun c hc=>(hok c hc).1) l hll,bsome,isOrd]
  cases hi:isL h l with
  | false=>rfl
  | true =>
    simp only [cond_true,Z74_eq (fun c hc=>(hok c hc).1) l hll (isL_in hi),Z76_eq ha hok l hll (isL_in hi),bsome]
    cases keepsL bef h l <;> rfl
 ·simp [he]
end
end Go.Am

set_option maxRecDepth 100000
set_option linter.unusedVariables false
set_option linter.unusedSimpArgs false
namespace Go.Am
open Go
section
variable (S:List Spec) (h:List Call) (must:Call→Call→Bool)
def isFrom:Nat→Int×Int→List Nat→Prop
 | m,_,[]=>endsM h m=true
 | m,s,i::l => ∃ p,nextM S h must m s i=some p∧isFrom p.1 p.2 l
end
section
variable {S:List Spec} {h:List Call} {must:Call→Call→Bool}
theorem mem_ords : ∀ (l:List Nat) (m:Nat) (s:Int×Int),l∈ords S h must m s↔isFrom S h must m s l
 | [],m,s=>by
   rw [ords_eq]
   simp only [List.mem_append,List.mem_flatMap,isFrom]
   constructor
   ·rintro (hx | ⟨i,_,hx⟩)
    ·cases he:endsM h m <;> rw [he] at hx <;> simp at hx ⊢
    ·cases hn:nextM S h must m s i <;> rw [hn] at hx <;> simp at hx
   ·intro he;rw [he];exact .inl (by simp)
 | i::l,m,s=>by
   rw [ords_eq]
   simp only [List.mem_append,List.mem_flatMap,isFrom]
   constructor
   ·rintro (hx | ⟨j,_,hx⟩)
    ·cases he:endsM h m <;> rw [he] at hx <;> simp at hx
    ·cases hn:nextM S h must m s j with
     | none=>rw [hn] at hx;simp at hx
     | some p =>
       rw [hn] at hx
       simp only [Option.map_some,Option.getD_some,List.mem_map,List.cons.injEq] at hx
       obtain ⟨y,hy,e1,e2⟩:=hx
       subst e1
       rw [e2] at hy
       exact ⟨p,hn,(mem_ords l p.1 p.2).1 hy⟩
   ·rintro ⟨p,hn,hf⟩
    refine .inr ⟨i,?_,?_⟩
    ·obtain ⟨c,_,hi,_⟩:=nextM_some hn
     exact List.mem_range.2 hi
    ·rw [hn]
     simp only [Option.map_some,Option.getD_some,List.mem_map,List.cons.injEq]
     exact ⟨l,(mem_ords l p.1 p.2).2 hf,trivial,rfl⟩
theorem keepsL_iff (must:Call→Call→Bool) (h:List Call) (l:List Int):keepsL must h l=true↔l.Pairwise fun y x=>must (hc h x) (hc h y)=false:=by
 induction l using snoc_ind with
 | h0=>simp [keepsL]
 | h1 l a ih =>
   rw [keepsL_snoc,Bool.and_eq_true,ih,List.pairwise_append]
   simp only [List.pairwise_singleton,List.mem_singleton,forall_eq,true_and,Bool.not_eq_true',List.any_eq_false,Bool.not_eq_true]
theorem full_iff {l:List Int}:full h l=true ↔ ∀ (i:Nat) c,h[i]?=some c→c.to≠0→(i:Int)∈l:=by
 simp only [full,Bool.not_eq_true',List.any_eq_false,List.mem_range]
 constructor
 ·intro hf i c hc hto
  have:=hf i (List.getElem?_eq_some_iff.1 hc).1
  rw [hc] at this
  simp only [Option.map_some,Option.getD_some,Bool.and_eq_true,decide_eq_true_eq,Bool.not_eq_true',not_and,Bool.not_eq_false,List.contains_iff_mem] at this
  exact this hto
 ·intro hf i hi
  have hc:=List.getElem?_eq_getElem hi
  rw [hc]
  simp only [Option.map_some,Option.getD_some,Bool.and_eq_true,decide_eq_true_eq,Bool.not_eq_true',not_and,Bool.not_eq_false,List.contains_iff_mem]
  exact hf i _ hc
def isOrdM (S:List Spec) (h:List Call) (must:Call→Call→Bool) (l:List Int):Bool:=isL h l&&(keepsL must h l&&allowsL S h l)
theorem allowsF_app (S:List Spec) (h:List Call) : ∀ (l m:List Int) (s:Int×Int),allowsF S h (l++m) s=(allowsF S h l s&&allowsF S h m (l.foldl (fun s x=>doS S (hc h x) s) s))
 | [],m,s=>by simp [allowsF]
 | x::l,m,s=>by simp only [List.cons_append,allowsF,allowsF_app S h l m,List.foldl_cons,Bool.and_assoc]
theorem runL_cN (S:List Spec) (h:List Call) (l:List Nat):(cN l).foldl (fun s x=>doS S (hc h x) s) (0,0)=runL S h l:=by
 unfold cN runL;rw [List.foldl_map]
theorem nodup_cN {l:List Nat}:(cN l).Nodup↔l.Nodup:=by
 unfold cN
 constructor
 ·intro hn
  induction l with
  | nil=>simp
  | cons a l ih =>
    simp only [List.map_cons,List.nodup_cons,List.mem_map,not_exists,not_and] at hn ⊢
    exact ⟨fun ha=>hn.1 a ha rfl,ih hn.2⟩
 ·intro hn
  induction l with
  | nil=>simp
  | cons a l ih =>
    simp only [List.map_cons,List.nodup_cons,List.mem_map,not_exists,not_and] at hn ⊢
    exact ⟨fun b hb e=>hn.1 (by have:b=a:=by omega
                                rw [←this];exact hb),ih hn.2⟩
theorem from_isOrd (hok : ∀ c∈h,callOk c=true) (hm:MustOk must h) : ∀ (l2 l1:List Nat),nums h (cN l1)=true→allowsL S h (cN l1)=true→keepsL must h (cN l1)=true→closed must h (maskL l1) →
  (isFrom S h must (maskL l1) (runL S h l1) l2↔isOrdM S h must (cN (l1++l2))=true)
 | [],l1,hn,ha,hk,hcl=>by
   rw [List.append_nil]
   simp only [isFrom,isOrdM,hk,ha,Bool.and_true]
   rw [isL_ends hok hn]
 | i::l2,l1,hn,ha,hk,hcl=>by
   have hrange : ∀ x∈cN l1,inH h x=true:=(nums_iff.1 hn).1
   simp only [isFrom]
   have happ:l1++i::l2=(l1++[i])++l2:=by simp
   constructor
   ·rintro ⟨p,hnx,hf⟩
    obtain ⟨c,hci,hi,ht,hfr,hos,rfl⟩:=nextM_some hnx
    have hhc:=hc_nat hci
    have hil:i∉l1:=by rw [maskL_test] at ht;simpa using ht
    have h1:nums h (cN (l1++[i]))=true:=by
     rw [cN_snoc,nums_iff]
     obtain ⟨n1,n2⟩:=nums_iff.1 hn
     refine ⟨fun x hx => ?_,?_⟩
     ·rw [List.mem_append,List.mem_singleton] at hx
      rcases hx with hx | rfl
      ·exact n1 x hx
      ·exact inH_iff.2 ⟨by omega,by omega⟩
     ·rw [List.nodup_append]
      refine ⟨n2,by simp,fun x hx y hy => ?_⟩
      rw [List.mem_singleton] at hy;subst hy
      rintro rfl
      exact hil (cN_mem.1 hx)
    have h2:allowsL S h (cN (l1++[i]))=true:=by rw [allowsL_snoc,ha,hhc,hos];rfl
    have h3:keepsL must h (cN (l1++[i]))=true:=by
     rw [cN_snoc,keepsL_snoc,hk,hhc,Bool.true_and,Bool.not_eq_true',List.any_eq_false]
     intro y hy
     obtain ⟨j,hj,rfl⟩:=List.mem_map.1 hy
     have:=hcl i j c (hc h (j:Int)) hci (by have:=hc_get (hrange _ hy);simpa using this) (by rw [maskL_test];simpa using hj) ht
     simp [this]
    have h4:closed must h (maskL (l1++[i])):=by rw [maskL_snoc];exact closed_ins hcl hci hfr
    have:=(from_isOrd hok hm l2 (l1++[i]) h1 h2 h3 h4).1 (by rw [maskL_snoc,runL_snoc,hhc];exact hf)
    rw [happ];exact this
   ·intro ho
    have ho':=ho
    simp only [isOrdM,isL,Bool.and_eq_true] at ho
    obtain ⟨⟨o1,o2⟩,o3,o4⟩:=ho
    obtain ⟨n1,n2⟩:=nums_iff.1 o1
    have hmem:(i:Int)∈cN (l1++i::l2):=cN_mem.2 (by simp)
    have hii:=inH_iff.1 (n1 _ hmem)
    have hi:i<h.length:=by omega
    have hci:=List.getElem?_eq_getElem hi
    have hcm:=List.getElem_mem hi
    generalize h[i]=c at hci hcm
    have hhc:=hc_nat hci
    have hnd:=nodup_cN.1 n2
    have hil:i∉l1:=by
     rw [List.nodup_append] at hnd
     intro hx
     exact hnd.2.2 i hx i (by simp) rfl
    have ht:(maskL l1).testBit i=false:=by rw [maskL_test];simpa using hil
    have hk2:=(keepsL_iff must h _).1 o3
    have hos:okS S c (runL S h l1)=true:=by
     unfold allowsL at o4
     rw [show cN (l1++i::l2)=cN l1++(i:Int)::cN l2 by simp [cN],allowsF_app,Bool.and_eq_true,runL_cN] at o4
     have:=o4.2
     simp only [allowsF,Bool.and_eq_true,hhc] at this
     exact this.1
    have hfr:freeM h must (maskL l1) i c=true:=by
     simp only [freeM,ht,Bool.not_false,Bool.true_and,List.all_eq_true,List.mem_range]
     intro k hkl
     have hck:=List.getElem?_eq_getElem hkl
     have hckm:=List.getElem_mem hkl
     generalize h[k]=d at hck hckm
     rw [hck]
     simp only [Option.map_some,Option.getD_some,Bool.or_eq_true,Bool.not_eq_true']
     by_cases hkin:k∈l1
     ·left;rw [maskL_test];simpa using hkin
     ·right
      cases hmu:must d c with
      | false=>rfl
      | true =>
        exfalso
        have hret:=hm.ret d hckm c hcm hmu
        have hkm:=cN_mem.1 (full_iff.1 o2 k d hck (by omega))
        have hne:k≠i:=by
         rintro rfl
         rw [hck] at hci;cases hci
         rw [hm.irr _ hckm] at hmu;cases hmu
        have hk3:k∈l2:=by
         rw [List.mem_append,List.mem_cons] at hkm
         rcases hkm with h | h | h
         ·exact absurd h hkin
         ·exact absurd h hne
         ·exact h
        rw [show cN (l1++i::l2)=cN l1++(i:Int)::cN l2 by simp [cN],List.pairwise_append] at hk2
        have:=hk2.2.1
        rw [List.pairwise_cons] at this
        have:=this.1 (k:Int) (cN_mem.2 hk3)
        rw [hc_nat hck,hhc,hmu] at this
        cases this
    have hnx:nextM S h must (maskL l1) (runL S h l1) i=some (ins (maskL l1) i,doS S c (runL S h l1)):=by simp [nextM,hci,hfr,hos]
    refine ⟨_,hnx,?_⟩
    have h1:nums h (cN (l1++[i]))=true:=by
     rw [nums_iff]
     refine ⟨fun x hx=>n1 x ?_,nodup_cN.2 ?_⟩
     ·rw [happ,show cN (l1++[i]++l2)=cN (l1++[i])++cN l2 by simp [cN]];exact List.mem_append_left _ hx
     ·rw [happ] at hnd;exact (List.nodup_append.1 hnd).1
    have h2:allowsL S h (cN (l1++[i]))=true:=by rw [allowsL_snoc,ha,hhc,hos];rfl
    have h3:keepsL must h (cN (l1++[i]))=true:=by
     rw [keepsL_iff]
     rw [happ,show cN (l1++[i]++l2)=cN (l1++[i])++cN l2 by simp [cN],List.pairwise_append] at hk2
     exact hk2.1
    have h4:closed must h (maskL (l1++[i])):=by rw [maskL_snoc];exact closed_ins hcl hci hfr
    have:=(from_isOrd hok hm l2 (l1++[i]) h1 h2 h3 h4).2 (by rw [happ] at ho';exact ho')
    rw [maskL_snoc,runL_snoc,hhc] at this
    exact this
theorem mem_ords0 (hok : ∀ c∈h,callOk c=true) (hm:MustOk must h) (l:List Nat):l∈ords S h must 0 (0,0)↔isOrdM S h must (cN l)=true:=by
 rw [mem_ords]
 have:=from_isOrd (S:=S) hok hm l [] rfl rfl rfl (fun k i c d _ _ hb _=>by simp [maskL] at hb)
 exact this
end
end Go.Am
