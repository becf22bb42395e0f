/- Own text: EL16. -/
import Derived.Test.YtalfdjihejohoaaEL3
import Derived.Test.YtalfdjihejohoaaEL8
set_option maxRecDepth 100000
set_option linter.unusedVariables false
set_option linter.unusedSimpArgs false
set_option linter.unusedSectionVars false
namespace Go.Am
open Go Go.Proofs
theorem E109_eq (a b:Int):E109 Ar.std a b=some (cmpI a b):=by
 unfold E109 E134 cmpI
 simp only [bsome,std_zeq,decide_true,Bool.not_true,cond_false,std_zlt]
 by_cases h1:a<b
 ·simp [h1]
 ·by_cases h2:b<a <;> simp [h1,h2]
theorem E139_eq (a b:Int):E139 Ar.std [.int .i64 a,.int .i64 b]=some (if a=0 then b else a):=by
 have g0:gt Ar.std (cI .i64) [.int .i64 a,.int .i64 b] 0=some a:=rfl
 have g1:gt Ar.std (cI .i64) [.int .i64 a,.int .i64 b] 1=some b:=rfl
 have w0:Ar.std.wrp .i64 (Ar.std.zadd 0 1)=1:=by decide
 have w1:Ar.std.wrp .i64 (Ar.std.zadd 1 1)=2:=by decide
 have l0:Ar.std.zlt 0 (Ar.std.len [.int .i64 a,.int .i64 b])=true:=rfl
 have l1:Ar.std.zlt 1 (Ar.std.len [.int .i64 a,.int .i64 b])=true:=rfl
 have l2:Ar.std.zlt 2 (Ar.std.len [.int .i64 a,.int .i64 b])=false:=rfl
 unfold E139
 by_cases ha:a=0
 ·have s0:E139L0 Ar.std [.int .i64 a,.int .i64 b] 0=some (.inl 1):=by
   unfold E139L0
   rw [l0,cond_true,g0,bsome,std_zeq,decide_eq_true ha,cond_true,w0]
  rw [iter_inl s0,if_pos ha]
  by_cases hb:b=0
  ·have s1:E139L0 Ar.std [.int .i64 a,.int .i64 b] 1=some (.inl 2):=by
    unfold E139L0
    rw [l1,cond_true,g1,bsome,std_zeq,decide_eq_true hb,cond_true,w1]
   have s2:E139L0 Ar.std [.int .i64 a,.int .i64 b] 2=some (.inr (.inl ())):=by
    unfold E139L0
    rw [l2,cond_false]
   rw [iter_inl s1,iter_inr s2,bsome,hb];rfl
  ·have s1:E139L0 Ar.std [.int .i64 a,.int .i64 b] 1=some (.inr (.inr b)):=by
    unfold E139L0
    rw [l1,cond_true,g1,bsome,std_zeq,decide_eq_false hb,cond_false]
   rw [iter_inr s1,bsome];rfl
 ·have s0:E139L0 Ar.std [.int .i64 a,.int .i64 b] 0=some (.inr (.inr a)):=by
   unfold E139L0
   rw [l0,cond_true,g0,bsome,std_zeq,decide_eq_false ha,cond_false]
  rw [iter_inr s0,bsome,if_neg ha];rfl
theorem E138_eq (f g:Fen) : ∃ z,E138 Ar.std f.1 f.2 g.1 g.2=some z/\(z=0↔f=g)/\decide (z<0)=ltFen f g:=by
 obtain ⟨a,b⟩:=f
 obtain ⟨c,d⟩:=g
 refine ⟨if cmpI a c=0 then cmpI b d else cmpI a c,?_,?_,?_⟩
 ·unfold E138
  rw [E109_eq,bsome,E109_eq,bsome,E139_eq,bsome]
 ·unfold cmpI
  rw [Prod.mk.injEq]
  by_cases h1:a<c
  ·simp [h1];omega
  ·by_cases h2:c<a
   ·simp [h1,h2];omega
   ·have:a=c:=by omega
    subst this
    by_cases h3:b<d
    ·simp [h3];omega
    ·by_cases h4:d<b
     ·simp [h3,h4];omega
     ·simp [h3,h4];omega
 ·unfold cmpI ltFen
  by_cases h1:a<c
  ·simp [h1]
  ·by_cases h2:c<a
   ·have h5 : ¬ a=c:=by omega
    simp [h1,h2,h5]
   ·have:a=c:=by omega
    subst this
    by_cases h3:b<d
    ·simp [h3]
    ·by_cases h4:d<b <;> simp [h3,h4]
theorem lexB_drop {l m:List Fen} {i:Nat} (hl:i<l.length) (hm:i<m.length):lexB (l.drop i) (m.drop i)=bif decide (l[i]=m[i]) then lexB (l.drop (i+1)) (m.drop (i+1)) else ltFen l[i] m[i]:=by
 rw [List.drop_eq_getElem_cons hl,List.drop_eq_getElem_cons hm];rfl
theorem lexB_end {l m:List Fen} (h:m.length<=l.length\/l.length<=m.length) {n:Nat} (hn:n=min l.length m.length):lexB (l.drop n) (m.drop n)=decide (l.length<m.length):=by
 by_cases hc:l.length<m.length
 ·have:n=l.length:=by omega
  subst this
  rw [List.drop_length,List.drop_eq_getElem_cons hc,decide_eq_true hc];rfl
 ·have:n=m.length:=by omega
  subst this
  rw [List.drop_length,decide_eq_false hc]
  cases l.drop m.length <;> rfl
theorem E130_eq (l m:List Fen) (hl:l.length<9223372036854775808) : ∃ z,E130 Ar.std (l.map dFen) (m.map dFen)=some z/\decide (z<0)=lexB l m:=by
 have key:=iter_relE (step:=E137L0 Ar.std (l.map dFen) (m.map dFen)) l.length (fun (_:Unit) i=>(i:Int)) (fun i _=>i<=m.length/\lexB l m=lexB (l.drop i) (m.drop i)) (fun _ x => ∃ z,x = .inr z/\decide (z<0)=lexB l m) (fun _ => .inl ())
  (fun i s hi ⟨hm,hR⟩=>by
   unfold E137L0
   try dsimp only
   rw [ltFn hi,cond_true,gt_fen (zp1 hi),bsome]
   try dsimp only
   cases hz:Ar.std.zle (Ar.std.len (m.map dFen)) (i:Int) with
   | true =>
     refine .inr ⟨_,⟨1,rfl,?_⟩,rfl⟩
     have he:m.length=i:=by simp at hz;omega
     rw [hR,<-he,List.drop_length]
     rw [<-he] at hi
     rw [List.drop_eq_getElem_cons hi];rfl
   | false =>
     have hm:i<m.length:=by simp at hz;omega
     rw [cond_false,gt_fen (zp1 hm),bsome]
     try dsimp only
     obtain ⟨r,hr,hr0,hr1⟩:=E138_eq l[i] m[i]
     rw [hr,bsome,incF hi hl]
     rw [lexB_drop hi hm] at hR
     cases hz:Ar.std.zeq r 0 with
     | true =>
       rw [std_zeq,decide_eq_true_eq] at hz
       rw [decide_eq_true (hr0.1 hz),cond_true] at hR
       exact .inl ⟨(),⟨hm,hR⟩,rfl⟩
     | false =>
       rw [std_zeq,decide_eq_false_iff_not] at hz
       rw [decide_eq_false (fun e=>hz (hr0.2 e)),cond_false] at hR
       exact .inr ⟨_,⟨r,rfl,by rw [hr1,hR]⟩,rfl⟩)
  (fun s _=>by
   unfold E137L0
   try dsimp only
   rw [geF,cond_false]) () ⟨Nat.zero_le _,rfl⟩
 unfold E130 E137
 rcases key with ⟨_,⟨hm,hR⟩,h⟩ | ⟨i,x,_,⟨z,rfl,hz⟩,h⟩
 ·rw [show (0:Int)=((0:Nat):Int) from rfl,h,bsome,Sum.elim_inl]
  rw [lexB_end (.inr hm) (by omega)] at hR
  have e:Ar.std.zlt (Ar.std.len (l.map dFen)) (Ar.std.len (m.map dFen))=decide (l.length<m.length):=by simp
  rw [e,hR]
  cases decide (l.length<m.length) with
  | true=>exact ⟨-1,rfl,rfl⟩
  | false=>exact ⟨0,rfl,rfl⟩
 ·rw [show (0:Int)=((0:Nat):Int) from rfl,h]
  exact ⟨z,rfl,hz⟩
open Classical in
theorem deq_fen (f g:Fen):Ar.std.deq [.int .i64 f.1,.int .i64 f.2] [.int .i64 g.1,.int .i64 g.2]=decide (f=g):=by
 obtain ⟨a,b⟩:=f
 obtain ⟨c,d⟩:=g
 rw [std_deq]
 refine decide_eq_decide.2 ?_
 simp
theorem E131_eq (l m:List Fen) (hl:l.length<9223372036854775808):E131 Ar.std (l.map dFen) (m.map dFen)=some (lexB l m):=by
 have key:=iter_relE (step:=E131L0 Ar.std (l.map dFen) (m.map dFen)) (min l.length m.length) (fun (_:Unit) i=>(i:Int)) (fun i _=>lexB l m=lexB (l.drop i) (m.drop i)) (fun _ x=>x = .inr (lexB l m)) (fun _ => .inl ())
  (fun i s hi hR=>by
   have hi1:i<l.length:=by omega
   have hi2:i<m.length:=by omega
   unfold E131L0
   try dsimp only
   rw [ltFn hi1,cond_true,ltFn hi2,bsome,cond_true,gt_fen (zp1 hi1),bsome]
   try dsimp only
   rw [gt_fen (zp1 hi2),bsome]
   try dsimp only
   rw [deq_fen,incF hi1 hl]
   rw [lexB_drop hi1 hi2] at hR
   by_cases he:l[i]=m[i]
   ·rw [decide_eq_true he,cond_true] at hR ⊢
    exact .inl ⟨(),hR,rfl⟩
   ·rw [decide_eq_false he,cond_false] at hR ⊢
    refine .inr ⟨_,rfl,?_⟩
    rw [hR]
    unfold ltFen
    simp only [std_zlt,std_zeq]
    cases decide (l[i].1<m[i].1) <;> cases decide (l[i].1=m[i].1) <;> rfl)
  (fun s hR=>by
   unfold E131L0
   try dsimp only
   by_cases hc:l.length<=m.length
   ·have e:Ar.std.zlt ((min l.length m.length:Nat):Int) (Ar.std.len (l.map dFen))=false:=by simp;omega
    rw [e,cond_false,bsome,cond_false]
   ·have e:Ar.std.zlt ((min l.length m.length:Nat):Int) (Ar.std.len (l.map dFen))=true:=by simp;omega
    have e2:Ar.std.zlt ((min l.length m.length:Nat):Int) (Ar.std.len (m.map dFen))=false:=by simp;omega
    rw [e,cond_true,e2,bsome,cond_false]) () rfl
 unfold E131
 rcases key with ⟨_,hR,h⟩ | ⟨i,x,_,rfl,h⟩
 ·rw [show (0:Int)=((0:Nat):Int) from rfl,h,bsome,Sum.elim_inl]
  rw [lexB_end (by omega) rfl] at hR
  rw [hR];simp
 ·rw [show (0:Int)=((0:Nat):Int) from rfl,h];rfl
theorem E101L0_eq (r:List Fen) (hr:r.length<=61) (i:Nat) (hi:i<2 ^ 62):iter (E101L0 Ar.std (r.map dFen) (i:Int)) ([],0)=some ((pkL i 0 r).map dFen):=E99L0_eq r hr i hi
theorem E92_eq (l:List Fen) (p:List Sta) (hl:l.length<=1000000000) (hp:p.length<=1000000000):E92 Ar.std (l.map dFen) (p.map dSta)=some (enoughF l p):=by
 unfold E92 ofF ofP
 rw [dec_eq dFen_inj (show LenOk 1000000000 l from hl),bsome,dec_eq dSta_inj' (show LenOk 1000000000 p from hp)];rfl
theorem E95_eq (c:List (List Int)) (l:List Fen) (hc:CostOk c) (hl:l.length<=1000000000) (h9 : ∀ r∈c,∀ n∈r,0<=n/\n<=9) (hin : ∀ f∈l,inCost c f):E95 Ar.std (c.map dRow) (l.map dFen)=some (costF c l):=by
 unfold E95 ofF ofC
 rw [dec_eq dRow_inj hc,bsome,dec_eq dFen_inj (show LenOk 1000000000 l from hl),bsome,if_pos ⟨h9,hin⟩]
section
variable {x:List (List Acc)} {c:List (List Int)} {q:List Sta} (hS:Small x/\(stations x).length<=4000000000) (hm:(fencesL x).length<=61) (hc:CostOk c) (hp:pricedB x c=true)
  (hq:q.length<=1000000000) (hall:enoughF (fencesL x) q=true)
def EnoughP (x:List (List Acc)) (q:List Sta) (l:List Fen):Prop:=l.Sublist (fencesL x)/\enoughF l q=true
include hS hm hc hp hq hall
theorem E99x : ∃ S,Best (costF c) (EnoughP x q) S/\E99 Ar.std (x.map dAccs) (c.map dRow) (q.map dSta)=some (S.map dFen):=by
 have e104:E104 Ar.std (x.map dAccs)=some ((fencesL x).map dFen):=by
  unfold E104 ofS;rw [dec_eq dAccs_inj hS];rfl
 unfold EnoughP
 obtain ⟨r,hr⟩ : ∃ r,fencesL x=r:=⟨_,rfl⟩
 have hin : ∀ f∈r,inCost c f:=fun f hf=>inCost_of hp (hr▸hf)
 have h9:=priced_09 hp
 rw [hr] at hm hall e104 ⊢
 have hpk : ∀ i,(pkL i 0 r).length<=61:=fun i=>Nat.le_trans (pkL_sub i r 0).length_le hm
 have h62:2 ^ r.length<2 ^ 62:=Nat.pow_lt_pow_right (by decide) (by omega)
 have h62':(2:Nat) ^ 62=4611686018427387904:=by decide
 have hshl:Ar.std.shl .i64 1 (Ar.std.len (r.map dFen))=((2 ^ r.length:Nat):Int):=by
  rw [std_shl,std_len,List.length_map,Int.toNat_natCast,show IntKind.i64.bits=64 from rfl,Nat.min_eq_left (by omega),Int.one_mul]
  rw [i64w _ (by have:(0:Int)<=2 ^ r.length:=Int.pow_nonneg (by decide);omega) (by
   have:((2 ^ r.length:Nat):Int)=(2:Int) ^ r.length:=by push_cast;rfl
   rw [<-this];omega)]
  push_cast;rfl
 have key:=iter_rel (step:=E99L1 Ar.std (c.map dRow) (q.map dSta) (r.map dFen)) (2 ^ r.length) (fun (s:List Fen×Int×Bool) i=>(s.1.map dFen,s.2.1,s.2.2,(i:Int)))
  (fun i s=>(s.2.2=false -> ∀ j,j<i->enoughF (pkL j 0 r) q=false) /\
   (s.2.2=true->s.1.Sublist r/\enoughF s.1 q=true/\s.2.1=costF c s.1 /\ ∀ j,j<i->enoughF (pkL j 0 r) q=true->bet (costF c) (pkL j 0 r) s.1=false))
  (fun s=>s.1.map dFen)
  (fun i s hi ⟨hR0,hR1⟩=>by
   obtain ⟨best,co,hv⟩:=s
   dsimp only at hR0 hR1 ⊢
   have hlt:Ar.std.zlt (i:Int) (Ar.std.shl .i64 1 (Ar.std.len (r.map dFen)))=true:=by
    rw [hshl,std_zlt];exact decide_eq_true (by omega)
   have e94:E94 Ar.std (c.map dRow) ((pkL i 0 r).map dFen)=some (costF c (pkL i 0 r)):=E94_eq c _ hc (Nat.le_trans (hpk i) (by decide)) h9 (fun f hf=>hin f ((pkL_sub i r 0).subset hf))
   have hinc:Ar.std.wrp .i64 (Ar.std.zadd (i:Int) 1)=((i+1:Nat):Int):=incF hi (by omega)
   unfold E99L1
   try dsimp only
   rw [hlt,cond_true,E99L0_eq r hm i (by omega),bsome,E91_eq _ q (Nat.le_trans (hpk i) (by decide)) hq,bsome,hinc]
   cases hen:enoughF (pkL i 0 r) q with
   | false =>
     rw [cond_false,bsome]
     refine ⟨(best,co,hv),⟨fun h j hj => ?_,fun h => ?_⟩,rfl⟩
     ·rcases Nat.lt_succ_iff_lt_or_eq.1 hj with hj | rfl
      ·exact hR0 h j hj
      ·exact hen
     ·obtain ⟨a1,a2,a3,a4⟩:=hR1 h
      refine ⟨a1,a2,a3,fun j hj hj2 => ?_⟩
      rcases Nat.lt_succ_iff_lt_or_eq.1 hj with hj | rfl
      ·exact a4 j hj hj2
      ·rw [hen] at hj2;cases hj2
   | true =>
     rw [cond_true,e94,bsome]
     have take : ∀ (old:hv=true->bet (costF c) (pkL i 0 r) best=true),∃ s':List Fen×Int×Bool,
       ((s'.2.2=false -> ∀ j,j<i+1->enoughF (pkL j 0 r) q=false)/\(s'.2.2=true->s'.1.Sublist r/\enoughF s'.1 q=true/\s'.2.1=costF c s'.1 /\ ∀ j,j<i+1->enoughF (pkL j 0 r) q=true->bet (costF c) (pkL j 0 r) s'.1=false)) /\
       (some (Sum.inl ((pkL i 0 r).map dFen,costF c (pkL i 0 r),true,((i+1:Nat):Int))):Option ((List D×Int×Bool×Int)⊕List D))=some (.inl (s'.1.map dFen,s'.2.1,s'.2.2,((i+1:Nat):Int))):=fun old=>by
      refine ⟨(pkL i 0 r,costF c (pkL i 0 r),true),⟨fun h=>(by cases h),fun _=>⟨pkL_sub i r 0,hen,rfl,fun j hj hj2 => ?_⟩⟩,rfl⟩
      rcases Nat.lt_succ_iff_lt_or_eq.1 hj with hj | rfl
      ·cases hv with
       | false=>rw [hR0 rfl j hj] at hj2;cases hj2
       | true =>
         rw [<-Bool.not_eq_true]
         intro hb
         have:=bet_tr (costF c) hb (old rfl)
         rw [(hR1 rfl).2.2.2 j hj hj2] at this;cases this
      ·exact bet_irr _ _
     have keep:hv=true->bet (costF c) (pkL i 0 r) best=false -> ∃ s':List Fen×Int×Bool,
       ((s'.2.2=false -> ∀ j,j<i+1->enoughF (pkL j 0 r) q=false)/\(s'.2.2=true->s'.1.Sublist r/\enoughF s'.1 q=true/\s'.2.1=costF c s'.1 /\ ∀ j,j<i+1->enoughF (pkL j 0 r) q=true->bet (costF c) (pkL j 0 r) s'.1=false)) /\
       (some (Sum.inl (best.map dFen,co,true,((i+1:Nat):Int))):Option ((List D×Int×Bool×Int)⊕List D))=some (.inl (s'.1.map dFen,s'.2.1,s'.2.2,((i+1:Nat):Int))):=fun hvt old=>by
      obtain ⟨a1,a2,a3,a4⟩:=hR1 hvt
      refine ⟨(best,co,true),⟨fun h=>(by cases h),fun _=>⟨a1,a2,a3,fun j hj hj2 => ?_⟩⟩,rfl⟩
      rcases Nat.lt_succ_iff_lt_or_eq.1 hj with hj | rfl
      ·exact a4 j hj hj2
      ·exact old
     cases hv with
     | false=>exact take (fun h=>(by cases h))
     | true =>
       obtain ⟨a1,a2,a3,a4⟩:=hR1 rfl
       rw [cond_true]
       cases h1:Ar.std.zlt (costF c (pkL i 0 r)) co with
       | true =>
         rw [std_zlt,decide_eq_true_eq] at h1
         exact take (fun _=>(bet_iff _ _ _).2 (.inl (by omega)))
       | false =>
         rw [std_zlt,decide_eq_false_iff_not] at h1
         rw [cond_false]
         cases h2:Ar.std.zeq (costF c (pkL i 0 r)) co with
         | false =>
           rw [std_zeq,decide_eq_false_iff_not] at h2
           refine keep rfl ?_
           rw [<-Bool.not_eq_true,bet_iff]
           rintro (h | ⟨h,_⟩) <;> omega
         | true =>
           rw [std_zeq,decide_eq_true_eq] at h2
           obtain ⟨z,hz,hz2⟩:=E130_eq (pkL i 0 r) best (by have:=hpk i;omega)
           rw [cond_true,hz,bsome,bsome]
           cases h3:Ar.std.zlt z 0 with
           | true =>
             rw [std_zlt] at h3
             exact take (fun _=>(bet_iff _ _ _).2 (.inr ⟨by omega,by rw [<-hz2,h3]⟩))
           | false =>
             rw [std_zlt] at h3
             refine keep rfl ?_
             rw [<-Bool.not_eq_true,bet_iff]
             rintro (h | ⟨_,h⟩)
             ·omega
             ·rw [<-hz2,h3] at h;cases h)
  (fun s _=>by
   have hge:Ar.std.zlt ((2 ^ r.length:Nat):Int) (Ar.std.shl .i64 1 (Ar.std.len (r.map dFen)))=false:=by
    rw [hshl,std_zlt];exact decide_eq_false (by omega)
   unfold E99L1
   try dsimp only
   rw [hge,cond_false])
  ([],0,false) ⟨fun _ j hj=>absurd hj (Nat.not_lt_zero j),fun h=>(by cases h)⟩
 obtain ⟨s,⟨hR0,hR1⟩,hit⟩:=key
 have hpick : ∀ S:List Fen,S.Sublist r -> ∃ j,j<2 ^ r.length/\pkL j 0 r=S:=fun S hs=>by
  obtain ⟨j,h1,_,h3⟩:=pkL_all r S 0 hs
  exact ⟨j,by simpa using h1,h3⟩
 have hvt:s.2.2=true:=by
  cases hv:s.2.2 with
  | true=>rfl
  | false =>
    obtain ⟨j,hj,e⟩:=hpick r (List.Sublist.refl r)
    have:=hR0 hv j hj
    rw [e,hall] at this;cases this
 obtain ⟨a1,a2,a3,a4⟩:=hR1 hvt
 refine ⟨s.1,⟨⟨a1,a2⟩,fun S' ⟨hs,he⟩ => ?_⟩,?_⟩
 ·obtain ⟨j,hj,rfl⟩:=hpick S' hs
  exact a4 j hj he
 ·have hn:nk (Ar.std.zlt (Ar.std.len (r.map dFen)) 0)=some ():=by
   have:Ar.std.zlt (Ar.std.len (r.map dFen)) 0=false:=by simp
   rw [this];rfl
  unfold E99
  rw [e104,bsome,hn,bsome]
  have:iter (E99L1 Ar.std (c.map dRow) (q.map dSta) (r.map dFen)) ([],0,false,0)=some (s.1.map dFen):=hit
  rw [this,bsome]
theorem E101x (r4:E60 Ar.std (x.map dAccs)=some ((fencesL x).map dFen)) (r6:E83 Ar.std (x.map dAccs)=some (q.map dSta)) : ∃ S,Best (costF c) (EnoughP x q) S/\E101 Ar.std (x.map dAccs) (c.map dRow)=some (S.map dFen):=by
 unfold EnoughP
 obtain ⟨r,hr⟩ : ∃ r,fencesL x=r:=⟨_,rfl⟩
 have hin : ∀ f∈r,inCost c f:=fun f hf=>inCost_of hp (hr▸hf)
 have h9:=priced_09 hp
 rw [hr] at hm hall r4 ⊢
 have hpk : ∀ i,(pkL i 0 r).length<=61:=fun i=>Nat.le_trans (pkL_sub i r 0).length_le hm
 have h62:2 ^ r.length<2 ^ 62:=Nat.pow_lt_pow_right (by decide) (by omega)
 have h62':(2:Nat) ^ 62=4611686018427387904:=by decide
 have hshl:Ar.std.shl .i64 1 (Ar.std.len (r.map dFen))=((2 ^ r.length:Nat):Int):=by
  rw [std_shl,std_len,List.length_map,Int.toNat_natCast,show IntKind.i64.bits=64 from rfl,Nat.min_eq_left (by omega),Int.one_mul]
  rw [i64w _ (by have:(0:Int)<=2 ^ r.length:=Int.pow_nonneg (by decide);omega) (by
   have:((2 ^ r.length:Nat):Int)=(2:Int) ^ r.length:=by push_cast;rfl
   rw [<-this];omega)]
  push_cast;rfl
 have e95 : ∀ l:List Fen,l.Sublist r->E95 Ar.std (c.map dRow) (l.map dFen)=some (costF c l):=fun l hl =>
  E95_eq c _ hc (Nat.le_trans hl.length_le (Nat.le_trans hm (by decide))) h9 (fun f hf=>hin f (hl.subset hf))
 have key:=iter_rel (step:=E101L1 Ar.std (c.map dRow) (r.map dFen) (q.map dSta)) (2 ^ r.length) (fun (s:List Fen) i=>(s.map dFen,(i:Int)))
  (fun i s=>s.Sublist r/\enoughF s q=true /\ ∀ j,j<i->enoughF (pkL j 0 r) q=true->bet (costF c) (pkL j 0 r) s=false)
  (fun s=>s.map dFen)
  (fun i best hi ⟨a1,a2,a4⟩=>by
   have hlt:Ar.std.zlt (i:Int) (Ar.std.shl .i64 1 (Ar.std.len (r.map dFen)))=true:=by
    rw [hshl,std_zlt];exact decide_eq_true (by omega)
   have hinc:Ar.std.wrp .i64 (Ar.std.zadd (i:Int) 1)=((i+1:Nat):Int):=incF hi (by omega)
   unfold E101L1
   try dsimp only
   rw [hlt,cond_true,E101L0_eq r hm i (by omega),bsome,E92_eq _ q (Nat.le_trans (hpk i) (by decide)) hq,bsome,hinc]
   have keep:(enoughF (pkL i 0 r) q=true->bet (costF c) (pkL i 0 r) best=false) -> ∃ s':List Fen,(s'.Sublist r/\enoughF s' q=true /\ ∀ j,j<i+1->enoughF (pkL j 0 r) q=true->bet (costF c) (pkL j 0 r) s'=false) /\
     (some (Sum.inl (best.map dFen,((i+1:Nat):Int))):Option ((List D×Int)⊕List D))=some (.inl (s'.map dFen,((i+1:Nat):Int))):=fun old=>by
    refine ⟨best,⟨a1,a2,fun j hj hj2 => ?_⟩,rfl⟩
    rcases Nat.lt_succ_iff_lt_or_eq.1 hj with hj | rfl
    ·exact a4 j hj hj2
    ·exact old hj2
   cases hen:enoughF (pkL i 0 r) q with
   | false =>
     rw [cond_false,bsome]
     exact keep fun h=>by rw [hen] at h;cases h
   | true =>
     rw [cond_true,e95 _ (pkL_sub i r 0),bsome,e95 _ a1,bsome]
     have take:bet (costF c) (pkL i 0 r) best=true -> ∃ s':List Fen,(s'.Sublist r/\enoughF s' q=true /\ ∀ j,j<i+1->enoughF (pkL j 0 r) q=true->bet (costF c) (pkL j 0 r) s'=false) /\
       (some (Sum.inl ((pkL i 0 r).map dFen,((i+1:Nat):Int))):Option ((List D×Int)⊕List D))=some (.inl (s'.map dFen,((i+1:Nat):Int))):=fun old=>by
      refine ⟨pkL i 0 r,⟨pkL_sub i r 0,hen,fun j hj hj2 => ?_⟩,rfl⟩
      rcases Nat.lt_succ_iff_lt_or_eq.1 hj with hj | rfl
      ·rw [<-Bool.not_eq_true]
       intro hb
       have:=bet_tr (costF c) hb old
       rw [a4 j hj hj2] at this;cases this
      ·exact bet_irr _ _
     have hbet:bet (costF c) (pkL i 0 r) best=(decide (costF c (pkL i 0 r)<costF c best)||(decide (costF c (pkL i 0 r)=costF c best)&&lexB (pkL i 0 r) best)):=rfl
     rw [std_zlt,std_zeq]
     cases h1:decide (costF c (pkL i 0 r)<costF c best) with
     | true =>
       rw [h1,Bool.true_or] at hbet
       exact take hbet
     | false =>
       rw [h1,Bool.false_or] at hbet
       rw [cond_false]
       cases h2:decide (costF c (pkL i 0 r)=costF c best) with
       | false =>
         rw [h2,Bool.false_and] at hbet
         exact keep fun _=>hbet
       | true =>
         rw [h2,Bool.true_and] at hbet
         rw [cond_true,E131_eq _ _ (by have:=hpk i;omega),bsome,bsome]
         cases h3:lexB (pkL i 0 r) best with
         | true=>rw [h3] at hbet;exact take hbet
         | false=>rw [h3] at hbet;exact keep fun _=>hbet)
  (fun s _=>by
   have hge:Ar.std.zlt ((2 ^ r.length:Nat):Int) (Ar.std.shl .i64 1 (Ar.std.len (r.map dFen)))=false:=by
    rw [hshl,std_zlt];exact decide_eq_false (by omega)
   unfold E101L1
   try dsimp only
   rw [hge,cond_false])
  r ⟨List.Sublist.refl r,hall,fun j hj=>absurd hj (Nat.not_lt_zero j)⟩
 obtain ⟨s,⟨a1,a2,a4⟩,hit⟩:=key
 refine ⟨s,⟨⟨a1,a2⟩,fun S' ⟨hs,he⟩ => ?_⟩,?_⟩
 ·obtain ⟨j,h1,_,rfl⟩:=pkL_all r S' 0 hs
  exact a4 j (by simpa using h1) he
 ·have hn:nk (Ar.std.zlt (Ar.std.len (r.map dFen)) 0)=some ():=by
   have:Ar.std.zlt (Ar.std.len (r.map dFen)) 0=false:=by simp
   rw [this];rfl
  unfold E101
  rw [r4,bsome,r6,bsome,hn,bsome]
  have:iter (E101L1 Ar.std (c.map dRow) (r.map dFen) (q.map dSta)) (r.map dFen,0)=some (s.map dFen):=hit
  rw [this,bsome]
end
end Go.Am

namespace Go.Am
open Go Go.Proofs
theorem valid_rows {x:List (List Acc)} (hv:valid x=true):1<=x.length/\x.length<=3 /\ ∀ l∈x,l.length<=4:=by
 unfold valid at hv
 simp only [zp4,Bool.not_eq_true',decide_eq_true_eq] at hv
 refine ⟨by omega,by omega,fun l hl => ?_⟩
 have:=List.any_eq_false.1 hv.2 l hl
 unfold badL at this
 simp only [Bool.or_eq_true,decide_eq_true_eq,not_or] at this
 omega
theorem valid_sm {x:List (List Acc)} (hv:valid x=true):Small x/\(stations x).length<=4000000000:=by
 obtain ⟨_,h2,h3⟩:=valid_rows hv
 have hs:Small x:=⟨by omega,fun l hl=>by have:=h3 l hl;omega⟩
 exact ⟨hs,Nat.le_trans (stations_length hs) (by decide)⟩
theorem valid_bg {x:List (List Acc)} (hv:valid x=true):Big x:=by
 obtain ⟨_,h2,h3⟩:=valid_rows hv
 exact ⟨by omega,fun l hl=>by have:=h3 l hl;omega⟩
theorem fences_le {x:List (List Acc)} (hv:valid x=true):(fencesL x).length<=61:=by
 obtain ⟨_,h2,h3⟩:=valid_rows hv
 have:=length_le_of_nodup (fencesL_nodup x) (m:=(List.range 3).flatMap fun t=>(List.range 3).map fun g=>(((t:Nat):Int),((g:Nat):Int))) (fun f hf=>by
  obtain ⟨a1,a2,a3,a4⟩:=mem_fencesL.1 hf
  have hlt:f.1.toNat<x.length:=by omega
  have hr:(x.getD f.1.toNat []).length<=4:=by
   rw [List.getD_eq_getElem?_getD,zp1 hlt]
   exact h3 _ (zp6 hlt)
  unfold rl at a4
  refine List.mem_flatMap.2 ⟨f.1.toNat,List.mem_range.2 (by omega),List.mem_map.2 ⟨f.2.toNat,List.mem_range.2 (by omega),?_⟩⟩
  obtain ⟨t,g⟩:=f
  simp only [Prod.mk.injEq]
  dsimp only at *
  omega)
 have h9:((List.range 3).flatMap fun t=>(List.range 3).map fun g=>(((t:Nat):Int),((g:Nat):Int))).length=9:=by decide
 omega
theorem all_enough (x:List (List Acc)):enoughF (fencesL x) (neededL x)=true:=by
 unfold enoughF
 rw [List.all_eq_true]
 intro s hs
 obtain ⟨h1,h2,_⟩:=(mem_needed_iff x).1 hs
 obtain ⟨i1,i2,i3,i4,i5,_⟩:=mem_stations_iff.1 h1
 have hlt:s.2.1<s.2.2:=by
  unfold isPair at h2
  simp only [zp4,decide_eq_true_eq] at h2
  exact h2.1.1.1
 unfold heldF
 rw [List.any_eq_true]
 refine ⟨(s.1,s.2.1),mem_fencesL.2 ⟨i1,i2,i3,?_⟩,?_⟩
 ·show s.2.1<rl x s.1-1
  unfold rl;omega
 ·unfold holdsF
  simp only [zp4,decide_eq_true_eq]
  exact ⟨⟨trivial,Int.le_refl _⟩,hlt⟩
theorem cost_okC {x:List (List Acc)} {c:List (List Int)} (hv:valid x=true) (hp:pricedB x c=true):CostOk c:=by
 obtain ⟨_,h2,h3⟩:=valid_rows hv
 obtain ⟨g1,g2⟩:=priced_row hp
 refine ⟨by omega,fun r hr => ?_⟩
 obtain ⟨i,hi,rfl⟩:=List.getElem_of_mem hr
 have:=(g2 i _ (zp1 hi)).1
 have hlt:i<x.length:=by omega
 have hr:(x.getD i []).length<=4:=by
  rw [List.getD_eq_getElem?_getD,zp1 hlt]
  exact h3 _ (zp6 hlt)
 omega
theorem needed_len {x:List (List Acc)} (hv:valid x=true):(neededL x).length<=1000000000:=by
 refine Nat.le_trans ?_ (stations_length (valid_sm hv).1)
 unfold neededL pairsL
 exact Nat.le_trans (List.length_filter_le _ _) (List.length_filter_le _ _)
theorem gtI1 {l:List Int} {i:Nat} {a:Int} (h:l[i]?=some a):gt Ar.std (cI .i64) (l.map I) (i:Int)=some a:=by rw [gt_at h];simp [I]
theorem gt_row {l:List (List Int)} {i:Nat} {a:List Int} (h:l[i]?=some a):gt Ar.std (cL 1) (l.map dRow) (i:Int)=some (a.map I):=by rw [gt_at h];simp [dRow]
theorem gt_acc {l:List (List Acc)} {i:Nat} {a:List Acc} (h:l[i]?=some a):gt Ar.std (cL 2) (l.map dAccs) (i:Int)=some (a.map dAcc):=by rw [gt_at h];simp [dAccs]
theorem ltM {α:Type} {f:α->D} {l:List α} {i:Nat} (h:i<l.length):Ar.std.zlt (i:Int) (Ar.std.len (l.map f))=true:=by simp;omega
theorem geM {α:Type} {f:α->D} {l:List α}:Ar.std.zlt (l.length:Int) (Ar.std.len (l.map f))=false:=by simp
theorem E50L0_eq (r:List Int) (hr:r.length<9223372036854775808):iter (E50L0 Ar.std (r.map I)) 0=some (bif r.all in19 then .inl () else .inr ()):=by
 have:=iter_any (step:=E50L0 Ar.std (r.map I)) r (fun n => !in19 n) (.inr ()) (.inl ()) (fun i a ha hi=>by
   unfold E50L0
   try dsimp only
   rw [ltM hi,cond_true,gtI1 ha,bsome,incF hi hr]
   have hb:(bif Ar.std.zlt a 1 then some true else some (Ar.std.zlt 9 a):Option Bool)=some (!in19 a):=by
    unfold in19
    simp only [std_zlt]
    by_cases h1:a<1
    ·have : ¬ 1<=a:=by omega
     simp [h1,this]
    ·have h2:1<=a:=by omega
     by_cases h3:9<a
     ·have : ¬ a<=9:=by omega
      simp [h1,h2,h3,this]
     ·have:a<=9:=by omega
      simp [h1,h2,h3,this]
   rw [hb,bsome]
   cases in19 a <;> rfl) (by
   unfold E50L0
   try dsimp only
   rw [geM,cond_false])
 rw [this]
 have hall:r.all in19 = !(r.any fun n => !in19 n):=by rw [List.not_any_eq_all_not];simp
 rw [hall]
 cases r.any fun n => !in19 n <;> rfl
theorem E50_eq (x:List (List Acc)) (c:List (List Int)) (hx:Small x) (hc:c.length<=9223372036854775807) (hr : ∀ r∈c,r.length<=9223372036854775807):E50 Ar.std (x.map dAccs) (c.map dRow)=some (pricedB x c):=by
 unfold E50 pricedB
 simp only [std_len,List.length_map,std_zeq]
 by_cases hlen:c.length=x.length
 ·have h1:((c.length:Nat):Int)=(x.length:Int):=by omega
  rw [decide_eq_true h1,decide_eq_true hlen,cond_true,Bool.and_true]
  have key:=iter_rng (step:=E50L1 Ar.std (x.map dAccs) (c.map dRow)) c.length (fun t => !prAt x c t) (.inr ()) (.inl ()) (fun t ht=>by
   have hcr:=zp1 ht
   have htx:t<x.length:=by omega
   have hxr:=zp1 htx
   have hrl:=hr _ (zp6 ht)
   have hxl:=hx.2 _ (zp6 htx)
   have e1:c.getD t []=c[t]:=by rw [List.getD_eq_getElem?_getD,hcr];rfl
   have e2:x.getD t []=x[t]:=by rw [List.getD_eq_getElem?_getD,hxr];rfl
   unfold E50L1 prAt
   try dsimp only
   rw [ltM ht,cond_true,gt_row hcr,bsome,gt_acc hxr,bsome,e1,e2,decide_eq_true htx,Bool.true_and]
   generalize c[t]=r at *
   generalize x[t]=row at *
   have hz:Ar.std.zeq (Ar.std.len (r.map I)) (Ar.std.zmax (Ar.std.wrp .i64 (Ar.std.zsub (Ar.std.len (row.map dAcc)) 1)) 0)=decide (r.length=row.length-1):=by
    simp only [std_len,List.length_map,std_wrp,std_zsub,std_zmax,std_zeq]
    rw [i64w _ (by omega) (by omega)]
    refine decide_eq_decide.2 ?_
    split <;> omega
   rw [hz,incF ht (by omega)]
   cases decide (r.length=row.length-1) with
   | false=>rfl
   | true =>
     rw [cond_true,E50L0_eq r (by omega),bsome,Bool.true_and]
     cases r.all in19 <;> rfl) (by
   unfold E50L1
   try dsimp only
   rw [geM,cond_false])
  rw [key,bsome]
  have hall:(List.range c.length).all (prAt x c) = !((List.range c.length).any fun t => !prAt x c t):=by rw [List.not_any_eq_all_not];simp
  rw [hall]
  cases (List.range c.length).any fun t => !prAt x c t <;> rfl
 ·have h1 : ¬ ((c.length:Nat):Int)=(x.length:Int):=by omega
  rw [decide_eq_false h1,decide_eq_false hlen,cond_false,Bool.and_false]
end Go.Am

namespace Go.Am
open Go Go.Proofs
theorem fenRow_succ (t n:Nat):fenRow t (n+1)=fenRow t n++[((t:Int),(n:Int))]:=by
 unfold fenRow;rw [List.range_succ,List.map_append];rfl
theorem fenT_succ (x:List (List Acc)) (n:Nat):fenT x (n+1)=fenT x n++fenRow n ((x.getD n []).length-1):=by
 unfold fenT;rw [List.range_succ,List.flatMap_append];simp
theorem fenT_len {x:List (List Acc)} (hx:Small x) : ∀ n,(fenT x n).length<=n*1000
 | 0=>by simp [fenT]
 | n+1=>by
   have ih:=fenT_len hx n
   rw [fenT_succ,List.length_append]
   have:(fenRow n ((x.getD n []).length-1)).length<=1000:=by
    unfold fenRow
    rw [List.length_map,List.length_range,List.getD_eq_getElem?_getD]
    cases h:x[n]? with
    | none=>simp
    | some l=>have:=hx.2 l (List.mem_of_getElem? h);simp;omega
   omega
theorem E60L0_eq (t:Nat) (row:List Acc) (hrow:row.length<=1000) (base:List Fen) (hb:base.length<=1000000000):iter (E60L0 Ar.std (t:Int) (row.map dAcc)) (base.map dFen,0)=some ((base++fenRow t (row.length-1)).map dFen):=by
 have hz:Ar.std.zmax (Ar.std.wrp .i64 (Ar.std.zsub (Ar.std.len (row.map dAcc)) 1)) 0=((row.length-1:Nat):Int):=by
  simp only [std_len,List.length_map,std_wrp,std_zsub,std_zmax]
  rw [i64w _ (by omega) (by omega)]
  split <;> omega
 have key:=iter_rel (step:=E60L0 Ar.std (t:Int) (row.map dAcc)) (row.length-1) (fun (s:List Fen) i=>(s.map dFen,(i:Int))) (fun i s=>s=base++fenRow t i) (fun s=>s.map dFen)
  (fun i s hi hR=>by
   subst hR
   refine ⟨_,rfl,?_⟩
   have hlen:(base++fenRow t i).length<4294967295:=by
    unfold fenRow;rw [List.length_append,List.length_map,List.length_range];omega
   have hap:ap Ar.std ((base++fenRow t i).map dFen) [.agg [.int .i64 (t:Int),.int .i64 (i:Int)]]=some ((base++fenRow t i++[((t:Int),(i:Int))]).map dFen):=ap_one dFen _ ((t:Int),(i:Int)) _ rfl hlen
   unfold E60L0
   try dsimp only
   rw [hz,std_zlt,decide_eq_true (by omega),cond_true,hap,bsome,incF hi (by omega),fenRow_succ,List.append_assoc])
  (fun s _=>by
   unfold E60L0
   try dsimp only
   rw [hz,std_zlt,decide_eq_false (by omega),cond_false])
  base (by unfold fenRow;simp)
 obtain ⟨s,rfl,e⟩:=key
 exact e
theorem E60_eq {x:List (List Acc)} (hx:Small x):E60 Ar.std (x.map dAccs)=some ((fencesL x).map dFen):=by
 have key:=iter_rel (step:=E60L1 Ar.std (x.map dAccs)) x.length (fun (s:List Fen) i=>(s.map dFen,(i:Int))) (fun i s=>s=fenT x i) (fun s=>s.map dFen)
  (fun i s hi hR=>by
   subst hR
   refine ⟨_,rfl,?_⟩
   have hxi:=zp1 hi
   have hrow:=hx.2 _ (zp6 hi)
   have hlen:=fenT_len hx i
   have hxl:=hx.1
   unfold E60L1
   try dsimp only
   rw [ltM hi,cond_true,gt_acc hxi,bsome,E60L0_eq i x[i] hrow _ (by omega),bsome,incF hi (by omega),fenT_succ]
   have e2:x.getD i []=x[i]:=by rw [List.getD_eq_getElem?_getD,hxi];rfl
   rw [e2])
  (fun s _=>by
   unfold E60L1
   try dsimp only
   rw [geM,cond_false])
  [] (by unfold fenT;simp)
 obtain ⟨s,rfl,e⟩:=key
 unfold E60
 have e':iter (E60L1 Ar.std (x.map dAccs)) ([],0)=some ((fenT x x.length).map dFen):=e
 rw [e',bsome];rfl
def errF (x:List (List Acc)) (c:List (List Int)):Int:=if valid x then (if pricedB x c then 0 else 2) else 90
section
variable {x:List (List Acc)} {c:List (List Int)}
theorem E20_eq (hx:Big x):E20 Ar.std (x.map dAccs)=some (valid x):=by unfold E20 ofX;rw [dec_eq dAccs_inj hx];rfl
theorem E14_eq (hx:Big x):E14 Ar.std (x.map dAccs)=some (valid x):=by unfold E14 ofX;rw [dec_eq dAccs_inj hx];rfl
theorem E98_eq (hx:Big x) (hc:CostOk c):E98 Ar.std (x.map dAccs) (c.map dRow)=some (errF x c):=by
 unfold E98 errF
 rw [E20_eq hx,bsome]
 cases hv:valid x with
 | false=>rfl
 | true =>
   unfold E93 ofS ofC
   rw [cond_true,dec_eq dAccs_inj (valid_sm hv),bsome,dec_eq dRow_inj hc,Option.map_some,bsome]
   cases pricedB x c <;> rfl
theorem E100_eq (hx:Big x) (hc:CostOk c):E100 Ar.std (x.map dAccs) (c.map dRow)=some (errF x c):=by
 unfold E100 errF
 rw [E14_eq hx,bsome]
 cases hv:valid x with
 | false=>rfl
 | true =>
   rw [cond_true,E50_eq x c (valid_sm hv).1 (by have:=hc.1;omega) (fun r hr=>hc.2 r hr),bsome]
   cases pricedB x c <;> rfl
theorem E77_eq (hv:valid x=true):E77 Ar.std (x.map dAccs)=some ((neededL x).map dSta):=by
 unfold E77 ofS;rw [dec_eq dAccs_inj (valid_sm hv)];rfl
theorem E83_eq (hv:valid x=true):E83 Ar.std (x.map dAccs)=some ((neededL x).map dSta):=by
 unfold E83;rw [dec_eq dAccs_inj (ok:=fun x=>valid x=true) hv];rfl
theorem E104_eq (hv:valid x=true):E104 Ar.std (x.map dAccs)=some ((fencesL x).map dFen):=by
 unfold E104 ofS;rw [dec_eq dAccs_inj (valid_sm hv)];rfl
theorem E53L0_eq (S:List Fen) (hS:S.length<=61):iter (E53L0 Ar.std (S.map dFen)) ([],0)=some (S.map dFen):=by
 have key:=iter_pre (step:=E53L0 Ar.std (S.map dFen)) S (fun pre=>pre) (fun s k=>(s.map dFen,(k:Int))) (fun s=>s.map dFen)
  (fun k a ha hk=>by
   have hap:ap Ar.std ((S.take k).map dFen) [.agg [.int .i64 a.1,.int .i64 a.2]]=some ((S.take k++[a]).map dFen):=ap_one dFen _ a _ rfl (by simp;omega)
   unfold E53L0
   try dsimp only
   rw [ltFn hk,cond_true,gt_fen ha,bsome]
   try dsimp only
   rw [hap,bsome,incF hk (by omega)])
  (by
   unfold E53L0
   try dsimp only
   rw [geF,cond_false])
 exact key
theorem cheap_ok (hv:valid x=true) (hp:pricedB x c=true) : ∃ S,Best (costF c) (EnoughP x (neededL x)) S /\
  E53 Ar.std (x.map dAccs) (c.map dRow)=some (S.map dFen,0)/\E54 Ar.std (x.map dAccs) (c.map dRow)=some (S.map dFen,0) /\
  E52 Ar.std (x.map dAccs) (c.map dRow)=some (costF c S,0)/\E55 Ar.std (x.map dAccs) (c.map dRow)=some (costF c S,0):=by
 have hS:=valid_sm hv
 have hc:=cost_okC hv hp
 obtain ⟨S,hb,h99⟩:=E99x hS (fences_le hv) hc hp (needed_len hv) (all_enough x)
 obtain ⟨S',hb',h101⟩:=E101x hS (fences_le hv) hc hp (needed_len hv) (all_enough x) (E60_eq hS.1) (E83_eq hv)
 obtain rfl:=Best.uniq _ hb hb'
 have he:errF x c=0:=by unfold errF;rw [hv,hp];rfl
 have e98:=E98_eq (valid_bg hv) hc
 have e100:=E100_eq (valid_bg hv) hc
 rw [he] at e98 e100
 have hl61:S.length<=61:=Nat.le_trans hb.1.1.length_le (fences_le hv)
 have hl:S.length<=1000000000:=by omega
 have hin : ∀ f∈S,inCost c f:=fun f hf=>inCost_of hp (hb.1.1.subset hf)
 have z0:Ar.std.zeq 0 0=true:=rfl
 refine ⟨S,hb,?_,?_,?_,?_⟩
 ·unfold E53
  rw [e98,bsome,z0,cond_true,E77_eq hv,bsome,h99,bsome,E53L0_eq S hl61,bsome]
 ·unfold E54
  rw [e100,bsome,z0,cond_true,h101,bsome]
 ·unfold E52
  rw [e98,bsome,z0,cond_true,E77_eq hv,bsome,h99,bsome,E94_eq c S hc hl (priced_09 hp) hin,bsome]
 ·unfold E55
  rw [e100,bsome,z0,cond_true,h101,bsome,E95_eq c S hc hl (priced_09 hp) hin,bsome]
theorem err_zne (he:errF x c≠0):Ar.std.zeq (errF x c) 0=false:=by rw [std_zeq];exact decide_eq_false he
end
end Go.Am

namespace Go.Am
open Go Go.Proofs
abbrev codS:Cod Sta:=cG (lc (cI .i64) (lc (cI .i64) (l1 (cI .i64))))
theorem un_sta (s:Sta):codS.un (dSta s)=some s:=by simp [dSta,I]
theorem gt_sta {l:List Sta} {i:Nat} {a:Sta} (h:l[i]?=some a):gt Ar.std codS (l.map dSta) (i:Int)=some a:=by rw [gt_at h,un_sta]
theorem gcI1 {l:List Int} {i:Nat} {a:Int} (h:l[i]?=some a):gc Ar.std (cI .i64) (l.map I) i=some a:=by rw [gc_at h];simp [I]
theorem needed_18 {x:List (List Acc)} (hv:valid x=true):(neededL x).length<=18:=by
 obtain ⟨_,h2,h3⟩:=valid_rows hv
 have:=length_le_of_nodup (needed_nodup x) (m:=(List.range 3).flatMap fun (t:Nat)=>[(((t:Nat):Int),(0:Int),(1:Int)),(((t:Nat):Int),0,2),(((t:Nat):Int),0,3),(((t:Nat):Int),1,2),(((t:Nat):Int),1,3),(((t:Nat):Int),2,3)]) (fun s hs=>by
  obtain ⟨h1,hp,_⟩:=(mem_needed_iff x).1 hs
  obtain ⟨i1,i2,i3,i4,i5,_⟩:=mem_stations_iff.1 h1
  have hlt:s.2.1<s.2.2:=by
   unfold isPair at hp
   simp only [zp4,decide_eq_true_eq] at hp
   exact hp.1.1.1
  have htx:s.1.toNat<x.length:=by omega
  have hr:(x.getD s.1.toNat []).length<=4:=by
   rw [List.getD_eq_getElem?_getD,zp1 htx]
   exact h3 _ (zp6 htx)
  obtain ⟨t,a,b⟩:=s
  dsimp only at *
  refine List.mem_flatMap.2 ⟨t.toNat,List.mem_range.2 (by omega),?_⟩
  have et:((t.toNat:Nat):Int)=t:=by omega
  rw [et]
  have ha:a=0\/a=1\/a=2:=by omega
  have hb:b=1\/b=2\/b=3:=by omega
  rcases ha with rfl | rfl | rfl <;> rcases hb with rfl | rfl | rfl <;> first | (simp;done) | omega)
 exact this
def endK (N:List Sta) (i:Int):Int:=(N.getD i.toNat (0,0,0)).2.2
theorem E108_eq (N:List Sta) (a b:Int) (ha:0<=a/\a<(N.length:Int)) (hb:0<=b/\b<(N.length:Int)):E108 Ar.std a b (N.map dSta)=some (cmpI (endK N a) (endK N b)):=by
 have one : ∀ a:Int,0<=a/\a<(N.length:Int)->gt Ar.std codS (N.map dSta) a=some (N.getD a.toNat (0,0,0)):=fun a h=>by
  have hl:a.toNat<N.length:=by omega
  have:=gt_sta (l:=N) (i:=a.toNat) (zp1 hl)
  rw [show ((a.toNat:Nat):Int)=a by omega] at this
  rw [this,List.getD_eq_getElem?_getD,zp1 hl];rfl
 unfold E108
 rw [one a ha,bsome]
 try dsimp only
 rw [one b hb,bsome]
 try dsimp only
 rw [E109_eq,bsome]
 rfl
theorem getDset {l:List Int} {j:Nat} (hj:j<l.length) (a:Int) (p:Nat):(l.set j a).getD p 0=if j=p then a else l.getD p 0:=by
 rw [List.getD_eq_getElem?_getD,List.getD_eq_getElem?_getD,List.getElem?_set]
 by_cases h:j=p
 ·subst h;simp [hj]
 ·rw [if_neg h,if_neg h]
section
variable (N:List Sta)
def keyAt (v:List Int) (p:Nat):Int:=endK N (v.getD p 0)
theorem ins_in (i:Nat) : ∀ (j:Nat) (v:List Int),j<=i->i<v.length->v.length<1000000->(∀ a∈v,0<=a/\a<(N.length:Int))->(∀ p q,p<q->q<=i->q≠j->keyAt N v p<=keyAt N v q) ->
  ∃ v',v'.Perm v/\(∀ p q,p<q->q<=i->keyAt N v' p<=keyAt N v' q)/\iter (E140L0 Ar.std 0 (N.map dSta)) ((j:Int),v.map I)=some (v'.map I)
 | 0,v,_,_,_,_,hs=>by
   refine ⟨v,List.Perm.refl _,fun p q h1 h2=>hs p q h1 h2 (by omega),iter_inr ?_⟩
   unfold E140L0
   try dsimp only
   rw [std_zlt,decide_eq_false (by omega),cond_false,bsome,cond_false]
 | j+1,v,hj,hi,hbig,hv,hs=>by
   have hj1:j+1<v.length:=by omega
   have hj0:j<v.length:=by omega
   have ha:=hv _ (zp6 hj1)
   have hb:=hv _ (zp6 hj0)
   have g1:=zp1 hj1
   have g0:=zp1 hj0
   have d1:v.getD (j+1) 0=v[j+1]:=by rw [List.getD_eq_getElem?_getD,g1];rfl
   have d0:v.getD j 0=v[j]:=by rw [List.getD_eq_getElem?_getD,g0];rfl
   have w:Ar.std.wrp .i64 (Ar.std.zsub ((j+1:Nat):Int) 1)=(j:Int):=by
    rw [std_wrp,std_zsub,i64w _ (by omega) (by omega)];omega
   have n1:Ar.std.nat ((j+1:Nat):Int)=j+1:=by simp
   have n0:Ar.std.nat (j:Int)=j:=by simp
   have c1:ck (Ar.std.zle 0 ((j+1:Nat):Int))=some ():=ck_of (by rw [std_zle];exact decide_eq_true (by omega))
   have c0:ck (Ar.std.zle 0 (j:Int))=some ():=ck_of (by simp)
   have k1:ck (Ar.std.zlt ((j+1:Nat):Int) (Ar.std.len (v.map I)))=some ():=ck_of (by simp;omega)
   have k0:ck (Ar.std.zlt (j:Int) (Ar.std.len (v.map I)))=some ():=ck_of (by simp;omega)
   have hlt:Ar.std.zlt 0 ((j+1:Nat):Int)=true:=by rw [std_zlt];exact decide_eq_true (by omega)
   have hcmp:Ar.std.zlt (cmpI (endK N v[j+1]) (endK N v[j])) 0=decide (endK N v[j+1]<endK N v[j]):=by
    rw [std_zlt]
    unfold cmpI
    split
    ·rename_i h;simp [h]
    ·rename_i h;split <;> simp [h]
   by_cases hc:endK N v[j+1]<endK N v[j]
   ·have hset:(v.map I).set (j+1) (.int .i64 v[j])=(v.set (j+1) v[j]).map I:=List.map_set.symm
    have l0:Ar.std.lset (v.map I) (j+1) (.int .i64 v[j])=(v.set (j+1) v[j]).map I:=hset
    have g2:(v.set (j+1) v[j])[j]?=some v[j]:=by rw [List.getElem?_set,if_neg (by omega)];exact g0
    have k2:ck (Ar.std.zlt (j:Int) (Ar.std.len ((v.set (j+1) v[j]).map I)))=some ():=ck_of (by rw [std_zlt,std_len,List.length_map,List.length_set];exact decide_eq_true (by omega))
    have l1:Ar.std.lset ((v.set (j+1) v[j]).map I) j (.int .i64 v[j+1])=((v.set (j+1) v[j]).set j v[j+1]).map I:=by
     exact List.map_set.symm
    have hstep:E140L0 Ar.std 0 (N.map dSta) (((j+1:Nat):Int),v.map I)=some (.inl ((j:Int),((v.set (j+1) v[j]).set j v[j+1]).map I)):=by
     unfold E140L0
     try dsimp only
     rw [hlt,cond_true,c1,bsome,k1,bsome,w,n1,n0,gcI1 g1,bsome,c0,bsome,k0,bsome,gcI1 g0,bsome,E108_eq N _ _ ha hb,bsome,hcmp,decide_eq_true hc,bsome,cond_true]
     simp only [bsome]
     rw [l0,k2,bsome,gcI1 g2,bsome,l1]
    have hperm:((v.set (j+1) v[j]).set j v[j+1]).Perm v:=List.set_set_perm hj1 hj0
    have hget : ∀ p,((v.set (j+1) v[j]).set j v[j+1]).getD p 0=if j=p then v[j+1] else if j+1=p then v[j] else v.getD p 0:=fun p=>by
     rw [getDset (by rw [List.length_set];omega),getDset hj1]
    obtain ⟨v',p1,p2,p3⟩:=ins_in i j ((v.set (j+1) v[j]).set j v[j+1]) (by omega) (by rw [List.length_set,List.length_set];omega) (by rw [List.length_set,List.length_set];omega) (fun a h=>hv a (hperm.mem_iff.1 h)) (fun p q hpq hq hne=>by
     unfold keyAt
     rw [hget,hget]
     have base:=fun p q a b c=>hs p q a b c
     unfold keyAt at base
     rw [if_neg (show ¬ j=q from fun e=>hne e.symm)]
     by_cases hq1:j+1=q
     ·rw [if_pos hq1]
      by_cases hp0:j=p
      ·rw [if_pos hp0];omega
      ·rw [if_neg hp0,if_neg (by omega)]
       have:=base p j (by omega) (by omega) (by omega)
       rw [d0] at this;exact this
     ·rw [if_neg hq1]
      by_cases hp0:j=p
      ·rw [if_pos hp0]
       have:=base (j+1) q (by omega) hq (fun e=>hq1 e.symm)
       rw [d1] at this;exact this
      ·rw [if_neg hp0]
       by_cases hp1:j+1=p
       ·rw [if_pos hp1]
        have:=base j q (by omega) hq (fun e=>hq1 e.symm)
        rw [d0] at this;exact this
       ·rw [if_neg hp1]
        exact base p q hpq hq (fun e=>hq1 e.symm))
    exact ⟨v',p1.trans hperm,p2,by rw [iter_inl hstep];exact p3⟩
   ·refine ⟨v,List.Perm.refl _,fun p q hpq hq => ?_,iter_inr ?_⟩
    ·by_cases hne:q=j+1
     ·subst hne
      have h1:keyAt N v j<=keyAt N v (j+1):=by
       unfold keyAt;rw [d0,d1];omega
      by_cases hp:p=j
      ·subst hp;exact h1
      ·exact Int.le_trans (hs p j (by omega) (by omega) (by omega)) h1
     ·exact hs p q hpq hq hne
    ·unfold E140L0
     try dsimp only
     rw [hlt,cond_true,c1,bsome,k1,bsome,w,n1,n0,gcI1 g1,bsome,c0,bsome,k0,bsome,gcI1 g0,bsome,E108_eq N _ _ ha hb,bsome,hcmp,decide_eq_false hc,bsome,cond_false]
theorem E140_ok (v:List Int) (M:List (D×D)) (hbig:v.length<1000000) (hv : ∀ a∈v,0<=a/\a<(N.length:Int)) :
  ∃ v',v'.Perm v/\(∀ p q,p<q->q<v.length->keyAt N v' p<=keyAt N v' q)/\E140 Ar.std 0 (v.length:Int) (N.map dSta) M (v.map I)=some (v'.map I):=by
 unfold E140
 have w0:Ar.std.wrp .i64 (Ar.std.zadd 0 1)=((1:Nat):Int):=by decide
 rw [w0]
 by_cases h0:v.length=0
 ·refine ⟨v,List.Perm.refl _,fun p q h1 h2=>by omega,?_⟩
  have:E140L1 Ar.std 0 (v.length:Int) (N.map dSta) (((1:Nat):Int),v.map I)=some (.inr (v.map I)):=by
   unfold E140L1
   try dsimp only
   rw [std_zlt,decide_eq_false (by omega),cond_false]
  rw [iter_inr this,bsome]
 have key:=iter_rel (step:=E140L1 Ar.std 0 (v.length:Int) (N.map dSta)) (v.length-1) (fun (s:List Int) i=>(((i+1:Nat):Int),s.map I))
  (fun i s=>s.Perm v /\ ∀ p q,p<q->q<=i->keyAt N s p<=keyAt N s q) (fun s=>s.map I)
  (fun i s hi ⟨hp,hs⟩=>by
   have hl:=hp.length_eq
   obtain ⟨v',p1,p2,p3⟩:=ins_in N (i+1) (i+1) s (Nat.le_refl _) (by omega) (by omega) (fun a h=>hv a (hp.mem_iff.1 h)) (fun p q a b c=>hs p q a (by omega))
   refine ⟨v',⟨p1.trans hp,p2⟩,?_⟩
   unfold E140L1
   try dsimp only
   rw [std_zlt,decide_eq_true (by omega),cond_true,p3,bsome,incF (i:=i+1) (n:=v.length) (by omega) (by omega)])
  (fun s _=>by
   unfold E140L1
   try dsimp only
   rw [std_zlt,decide_eq_false (by omega),cond_false])
  v ⟨List.Perm.refl _,fun p q a b=>by omega⟩
 obtain ⟨s,⟨hp,hs⟩,e⟩:=key
 refine ⟨s,hp,fun p q a b=>hs p q a (by omega),?_⟩
 have e':iter (E140L1 Ar.std 0 (v.length:Int) (N.map dSta)) (((1:Nat):Int),v.map I)=some (s.map I):=e
 rw [e',bsome]
theorem E107_ok (v:List Int) (M:List (D×D)) (hbig:v.length<20) (hv : ∀ a∈v,0<=a/\a<(N.length:Int)) :
  ∃ v',v'.Perm v/\(∀ p q,p<q->q<v.length->keyAt N v' p<=keyAt N v' q)/\E107 Ar.std (N.map dSta) M (v.map I)=some (v'.map I):=by
 obtain ⟨v',h1,h2,h3⟩:=E140_ok N v M (by omega) hv
 refine ⟨v',h1,h2,?_⟩
 have s0:E133L0 Ar.std (v.length:Int) (N.map dSta) M (0,20,v.map I)=some (.inr (0,v.map I)):=by
  unfold E133L0
  try dsimp only
  rw [std_zle,decide_eq_false (by omega),cond_false]
 have s1:E133L2 Ar.std (v.length:Int) 20=some (.inr ()):=by
  unfold E133L2
  try dsimp only
  rw [std_zlt,decide_eq_false (by omega),cond_false]
 have hl:Ar.std.len (v.map I)=(v.length:Int):=by simp
 unfold E107 E133
 rw [hl,iter_inr s0,bsome]
 try dsimp only
 rw [h3,bsome,iter_inr s1,bsome,bsome]
end
end Go.Am

namespace Go.Am
open Go Go.Proofs
def in100 (n:Int):Bool:=decide (0<=n)&&decide (n<=100)
theorem in100_iff (n:Int):in100 n=true↔0<=n/\n<=100:=by unfold in100;simp
def fitsB (c:List (List Int)) (F:List Fen) (l:List (Sta×Int)):Bool:=F.all fun f=>decide (paid f l<=priceF c f)
def proveT (x:List (List Acc)) (c:List (List Int)) (ps:List Int) (k:Int):Bool×Int :=
 if errF x c=0 then (if ps.length=(neededL x).length/\ps.all in100=true/\0<=k/\k<=1000 then (fitsB c (fencesL x) ((neededL x).zip ps)&&decide (k<=ps.sum),0) else (false,2)) else (false,errF x c)
theorem E67_eq (lo n hi:Int):E67 Ar.std lo n hi=some (decide (lo<=n)&&decide (n<=hi)):=by
 unfold E67
 simp only [std_zle]
 cases decide (lo<=n) <;> rfl
theorem E105_eq (f:Fen) (s:Sta):E105 Ar.std f.1 f.2 s.1 s.2.1 s.2.2=some (holdsF f s):=by
 unfold E105 holdsF
 simp only [std_zeq,std_zle,std_zlt]
 cases decide (f.1=s.1) <;> cases decide (s.2.1<=f.2) <;> rfl
theorem sumW_snoc {α:Type} (w:α->Int) (a:α) : ∀ (l:List α),sumW (l++[a]) w=sumW l w+w a
 | []=>by show w a+sumW [] w=sumW [] w+w a;rw [sumW_nil];omega
 | b::l=>by
   show w b+sumW (l++[a]) w=w b+sumW l w+w a
   rw [sumW_snoc w a l];omega
theorem sum_snoc (a:Int) (l:List Int):(l++[a]).sum=l.sum+a:=by simp
theorem paid_snoc (f:Fen) (q:Sta×Int) (l:List (Sta×Int)):paid f (l++[q])=paid f l+(if holdsF f q.1=true then q.2 else 0):=sumW_snoc _ q l
theorem paid_bound (f:Fen) : ∀ (l:List (Sta×Int)),(∀ q∈l,0<=q.2/\q.2<=100)->0<=paid f l/\paid f l<=100*(l.length:Int)
 | [],_=>by show (0:Int)<=0/\(0:Int)<=100*((0:Nat):Int);omega
 | q::l,h=>by
   obtain ⟨h1,h2⟩:=paid_bound f l fun q hq=>h q (by simp [hq])
   have h3:=h q (by simp)
   have e:paid f (q::l)=(if holdsF f q.1=true then q.2 else 0)+paid f l:=rfl
   rw [e,List.length_cons]
   push_cast
   split <;> omega
theorem sum_bound : ∀ (l:List Int),(∀ n∈l,0<=n/\n<=100)->0<=l.sum/\l.sum<=100*(l.length:Int)
 | [],_=>by simp
 | n::l,h=>by
   obtain ⟨h1,h2⟩:=sum_bound l fun q hq=>h q (by simp [hq])
   have h3:=h n (by simp)
   rw [List.sum_cons,List.length_cons]
   push_cast
   omega
theorem zip_in {N:List Sta} {ps:List Int} (hp : ∀ n∈ps,0<=n/\n<=100) : ∀ q∈N.zip ps,0<=q.2/\q.2<=100:=fun q hq=>hp q.2 (List.of_mem_zip hq).2
theorem gt_cost {c:List (List Int)} {f:Fen} (h:inCost c f) : ∃ r:List Int,gt Ar.std (cL 1) (c.map dRow) f.1=some (r.map I)/\gt Ar.std (cI .i64) (r.map I) f.2=some (priceF c f):=by
 obtain ⟨h1,h2,r,hr,hl⟩:=h
 refine ⟨r,?_,?_⟩
 ·have:=gt_row (i:=f.1.toNat) hr
  rwa [show ((f.1.toNat:Nat):Int)=f.1 by omega] at this
 ·have:=gtI1 (i:=f.2.toNat) (zp1 hl)
  rw [show ((f.2.toNat:Nat):Int)=f.2 by omega] at this
  rw [this]
  unfold priceF
  rw [List.getD_eq_getElem?_getD (l:=c),hr]
  simp [List.getD_eq_getElem?_getD,hl]
section
variable {N:List Sta} {ps:List Int} (hlen:ps.length=N.length) (hN:N.length<=1000) (hp : ∀ n∈ps,0<=n/\n<=100)
include hlen hN hp
theorem zip_get {i:Nat} {q:Sta×Int} (h:(N.zip ps)[i]?=some q):N[i]?=some q.1/\ps[i]?=some q.2:=List.getElem?_zip_eq_some.1 h
theorem zip_len:(N.zip ps).length=N.length:=by rw [List.length_zip];omega
theorem paid_take (f:Fen) (i:Nat):0<=paid f ((N.zip ps).take i)/\paid f ((N.zip ps).take i)<=100000:=by
 have:=paid_bound f ((N.zip ps).take i) fun q hq=>zip_in hp q (List.mem_of_mem_take hq)
 have hl:((N.zip ps).take i).length<=1000:=by rw [List.length_take,zip_len hlen hN hp];omega
 omega
theorem E57L0_eq (f:Fen) (c0:Int) (h0:0<=c0/\c0<=1000):iter (E57L0 Ar.std (ps.map I) (N.map dSta) f.1 f.2) (c0,0)=some (c0-paid f (N.zip ps)):=by
 have key:=iter_pre (step:=E57L0 Ar.std (ps.map I) (N.map dSta) f.1 f.2) (N.zip ps) (fun pre=>c0-paid f pre) (fun s k=>(s,(k:Int))) (fun s=>s)
  (fun k q hq hk=>by
   rw [zip_len hlen hN hp] at hk
   obtain ⟨g1,g2⟩:=zip_get hlen hN hp hq
   have hb:=paid_take hlen hN hp f k
   have hq2:=hp q.2 (List.mem_of_getElem? g2)
   unfold E57L0
   try dsimp only
   rw [ltM hk,cond_true,gt_sta g1,bsome]
   try dsimp only
   rw [E105_eq,bsome,incF hk (by omega),paid_snoc]
   cases hh:holdsF f q.1 with
   | true =>
     rw [cond_true,gtI1 g2,bsome,bsome,if_pos rfl,std_wrp,std_zsub,i64w _ (by omega) (by omega)]
     rw [show c0-paid f (List.take k (N.zip ps))-q.2=c0-(paid f (List.take k (N.zip ps))+q.2) by omega]
   | false =>
     rw [cond_false,bsome,if_neg (by simp)]
     rw [show c0-(paid f (List.take k (N.zip ps))+0)=c0-paid f (List.take k (N.zip ps)) by omega])
  (by
   rw [zip_len hlen hN hp]
   unfold E57L0
   try dsimp only
   rw [geM,cond_false])
 have e0:c0-paid f []=c0:=by show c0-0=c0;omega
 try dsimp only at key
 rw [e0] at key
 exact key
section
variable {c:List (List Int)} {F:List Fen} (hF:F.length<=61) (hin : ∀ f∈F,inCost c f) (h9 : ∀ f∈F,0<=priceF c f/\priceF c f<=9)
include hF hin h9
theorem E57L1_eq:iter (E57L1 Ar.std (c.map dRow) (ps.map I) (N.map dSta) (F.map dFen)) 0=some (bif fitsB c F (N.zip ps) then .inl () else .inr ()):=by
 have key:=iter_any (step:=E57L1 Ar.std (c.map dRow) (ps.map I) (N.map dSta) (F.map dFen)) F (fun f => !decide (paid f (N.zip ps)<=priceF c f)) (.inr ()) (.inl ()) (fun i f hf hi=>by
   have hm:=List.mem_of_getElem? hf
   obtain ⟨r,e1,e2⟩:=gt_cost (hin f hm)
   have h:=h9 f hm
   unfold E57L1
   try dsimp only
   rw [ltFn hi,cond_true,gt_fen hf,bsome]
   try dsimp only
   rw [e1,bsome,e2,bsome,E57L0_eq hlen hN hp f _ (by omega),bsome,incF hi (by omega)]
   have hz:Ar.std.zlt (priceF c f-paid f (N.zip ps)) 0 = !decide (paid f (N.zip ps)<=priceF c f):=by
    rw [std_zlt,<-decide_not]
    exact decide_eq_decide.2 (by omega)
   rw [hz]
   cases decide (paid f (N.zip ps)<=priceF c f) <;> rfl) (by
   unfold E57L1
   try dsimp only
   rw [geF,cond_false])
 rw [key]
 have e:fitsB c F (N.zip ps) = !(F.any fun f => !decide (paid f (N.zip ps)<=priceF c f)):=by unfold fitsB;rw [List.not_any_eq_all_not];simp
 rw [e]
 cases F.any fun f => !decide (paid f (N.zip ps)<=priceF c f) <;> rfl
end
end
theorem E57L2_eq (ps:List Int) (hl:ps.length<=1000) (hp : ∀ n∈ps,0<=n/\n<=100) (k:Int) (hk:0<=k/\k<=1000):iter (E57L2 Ar.std (ps.map I)) (k,0)=some (k-ps.sum):=by
 have key:=iter_pre (step:=E57L2 Ar.std (ps.map I)) ps (fun pre=>k-pre.sum) (fun s i=>(s,(i:Int))) (fun s=>s)
  (fun i a ha hi=>by
   have hb:=sum_bound (ps.take i) fun n hn=>hp n (List.mem_of_mem_take hn)
   have hlt:(ps.take i).length<=1000:=by rw [List.length_take];omega
   have h2:=hp a (List.mem_of_getElem? ha)
   unfold E57L2
   try dsimp only
   rw [ltM hi,cond_true,gtI1 ha,bsome,incF hi (by omega),sum_snoc,std_wrp,std_zsub,i64w _ (by omega) (by omega)]
   rw [show k-(List.take i ps).sum-a=k-((List.take i ps).sum+a) by omega])
  (by
   unfold E57L2
   try dsimp only
   rw [geM,cond_false])
 have e0:k-([]:List Int).sum=k:=by simp
 try dsimp only at key
 rw [e0] at key
 exact key
theorem E102a_eq (ps:List Int) (hl:ps.length<=1000):E102a Ar.std (ps.map I)=some (!ps.all in100):=by
 have key:=iter_find (step:=E132aL0 Ar.std (ps.map I)) ps (fun n => !in100 n) (fun i => .inr (i:Int)) (.inl ()) (fun i a ha hi=>by
   unfold E132aL0 E103
   try dsimp only
   rw [ltM hi,cond_true,gtI1 ha,bsome,E67_eq,bsome,bsome,incF hi (by omega)]
   unfold in100
   cases (decide (0<=a)&&decide (a<=100)) <;> rfl) (by
   unfold E132aL0
   try dsimp only
   rw [geM,cond_false])
 unfold E102a E132a
 rw [key,bsome]
 have e:(!ps.all in100)=(ps.findIdx? fun n => !in100 n).isSome:=by
  rw [List.findIdx?_isSome,List.not_all_eq_any_not]
 rw [e]
 cases ps.findIdx? fun n => !in100 n with
 | none=>rfl
 | some i =>
   show (some (i:Int)).bind (fun r3=>some (Ar.std.zle 0 r3))=some true
   rw [bsome,std_zle,decide_eq_true (by omega)]
section
variable {x:List (List Acc)} {c:List (List Int)} (hx:Big x) (hc:CostOk c) (ps:List Int) (hl:ps.length<=1000) (k:Int)
include hx hc hl
theorem err_cases:errF x c=0↔valid x=true/\pricedB x c=true:=by
 unfold errF
 cases valid x <;> cases pricedB x c <;> simp
theorem price_19 {x:List (List Acc)} {c:List (List Int)} (hp:pricedB x c=true) {f:Fen} (hf:f∈fencesL x):1<=priceF c f/\priceF c f<=9:=by
 obtain ⟨h1,h2,r,hr,hlt⟩:=inCost_of hp hf
 have:=((priced_row hp).2 _ _ hr).2 _ (zp6 hlt)
 unfold priceF
 rw [List.getD_eq_getElem?_getD (l:=c),hr]
 simpa [List.getD_eq_getElem?_getD,hlt] using this
theorem E57_eq:E57 Ar.std (x.map dAccs) (c.map dRow) (ps.map I) k=some (proveT x c ps k):=by
 unfold E57 proveT
 rw [E98_eq hx hc,bsome]
 by_cases he:errF x c=0
 ·obtain ⟨hv,hp⟩:=(err_cases hx hc ps hl).1 he
  have z0:Ar.std.zeq (errF x c) 0=true:=by rw [std_zeq];exact decide_eq_true he
  rw [if_pos he,z0,cond_true,E77_eq hv,bsome]
  have hN:=needed_18 hv
  have hz:Ar.std.zeq (Ar.std.len (ps.map I)) (Ar.std.len ((neededL x).map dSta))=decide (ps.length=(neededL x).length):=by
   rw [std_zeq,std_len,std_len,List.length_map,List.length_map]
   exact decide_eq_decide.2 (by omega)
  rw [hz]
  by_cases hlen:ps.length=(neededL x).length
  ·rw [decide_eq_true hlen,cond_true,E102a_eq ps hl,bsome]
   cases hall:ps.all in100 with
   | false =>
     rw [if_neg (by rintro ⟨_,h,_⟩;cases h)];rfl
   | true =>
     have hpp : ∀ n∈ps,0<=n/\n<=100:=fun n hn=>(in100_iff n).1 (List.all_eq_true.1 hall n hn)
     rw [E67_eq]
     by_cases hk:0<=k/\k<=1000
     ·rw [decide_eq_true hk.1,decide_eq_true hk.2,if_pos ⟨hlen,rfl,hk⟩]
      simp only [Bool.not_true,Bool.and_self,cond_false,bsome]
      rw [E104_eq hv,bsome,E57L1_eq hlen (by omega) hpp (fences_le hv) (fun f hf=>inCost_of hp hf) (fun f hf=>by have:=price_19 hx hc ps hl hp hf;omega),bsome]
      cases fitsB c (fencesL x) ((neededL x).zip ps) with
      | false=>rfl
      | true =>
        show ((iter (E57L2 Ar.std (ps.map I)) (k,0)).bind fun v137=>some (Ar.std.zle v137 0,(0:Int)))=_
        rw [E57L2_eq ps hl hpp k hk,bsome,std_zle,Bool.true_and]
        have:decide (k-ps.sum<=0)=decide (k<=ps.sum):=decide_eq_decide.2 (by omega)
        rw [this]
     ·rw [if_neg (fun h=>hk h.2.2)]
      have:(decide (0<=k)&&decide (k<=1000))=false:=by
       rw [<-Bool.not_eq_true,zp4,decide_eq_true_eq,decide_eq_true_eq];exact hk
      rw [this];rfl
  ·rw [decide_eq_false hlen,if_neg (fun h=>hlen h.1)];rfl
 ·rw [if_neg he,err_zne he,cond_false]
end
end Go.Am

namespace Go.Am
open Go Go.Proofs
theorem dFen_agg (a b:Int):D.agg [.int .i64 a,.int .i64 b]=dFen (a,b):=rfl
theorem lk_I {M:List (D×D)} {k:D} {a:Int} (h:mget M k=some (I a)):lk Ar.std (cI .i64) M k=some (some a):=by
 unfold lk
 rw [std_mget,h];rfl
theorem mset_mput {M:List (D×D)} {k v0:D} (h:mget M k=some v0) (v:D):Ar.std.mset M (Ar.std.midx M k) v=mput M k v:=by
 rw [mput_midx h,std_mset,std_midx,Int.toNat_natCast]
 have hg:=midx_get h
 obtain ⟨hl,he⟩:=zp2.1 hg
 apply List.ext_getElem?
 intro i
 rw [List.getElem?_modify,List.getElem?_set]
 by_cases hi:midx M k=i
 ·subst hi;simp [hl,he]
 ·simp [hi]
theorem mhas_ok {M:List (D×D)} {k v0:D} (h:mget M k=some v0):ck (Ar.std.mhas M (Ar.std.midx M k))=some ():=by
 refine ck_of ?_
 have hl:=(zp2.1 (midx_get h)).1
 rw [std_mhas,std_midx]
 exact decide_eq_true ⟨by omega,by omega⟩
def TellsL (F:List Fen) (M:List (D×D)) (L:Fen->Int):Prop := ∀ f∈F,mget M (dFen f)=some (I (L f))
theorem E59L0_ok {F:List Fen} {c:List (List Int)} (hF:F.length<=61) (hin : ∀ f∈F,inCost c f) : ∃ M,iter (E59L0 Ar.std (c.map dRow) (F.map dFen)) (0,[])=some M/\TellsL F M (priceF c):=by
 have key:=iter_rel (step:=E59L0 Ar.std (c.map dRow) (F.map dFen)) F.length (fun (M:List (D×D)) i=>((i:Int),M)) (fun i M => ∀ f∈F.take i,mget M (dFen f)=some (I (priceF c f))) (fun M=>M)
  (fun i M hi hR=>by
   have hf:=zp1 hi
   obtain ⟨r,e1,e2⟩:=gt_cost (hin _ (zp6 hi))
   refine ⟨mput M (dFen F[i]) (I (priceF c F[i])),fun f hm => ?_,?_⟩
   ·rw [take_succ_get hf] at hm
    rw [mget_mput]
    by_cases he:dFen F[i]=dFen f
    ·rw [if_pos he,dFen_inj _ _ he]
    ·rw [if_neg he]
     rcases List.mem_append.1 hm with hm | hm
     ·exact hR f hm
     ·rw [List.mem_singleton] at hm
      exact absurd (by rw [hm]) he
   ·unfold E59L0
    try dsimp only
    rw [ltFn hi,cond_true,gt_fen hf,bsome]
    try dsimp only
    rw [e1,bsome,e2,bsome,incF hi (by omega)]
    rfl)
  (fun M _=>by
   unfold E59L0
   try dsimp only
   rw [geF,cond_false])
  [] (fun f hf=>by simp at hf)
 obtain ⟨M,hM,e⟩:=key
 rw [List.take_length] at hM
 exact ⟨M,e,hM⟩
def numsI (n:Nat):List Int:=(List.range n).map fun (j:Nat)=>((j:Nat):Int)
theorem numsI_len (n:Nat):(numsI n).length=n:=by unfold numsI;simp
theorem mem_numsI {n:Nat} {a:Int}:a∈numsI n↔0<=a/\a<(n:Int):=by
 unfold numsI
 simp only [List.mem_map,List.mem_range]
 constructor
 ·rintro ⟨j,hj,rfl⟩;omega
 ·rintro ⟨h1,h2⟩;exact ⟨a.toNat,by omega,by omega⟩
theorem numsI_nodup (n:Nat):(numsI n).Nodup:=by
 unfold numsI
 rw [List.nodup_iff_pairwise_ne,List.pairwise_map]
 exact List.Pairwise.imp (fun h e=>h (by omega)) (List.nodup_iff_pairwise_ne.1 List.nodup_range)
theorem E59L1_ok (N:List Sta) (hN:N.length<=1000):iter (E59L1 Ar.std (N.map dSta)) (0,[])=some ((numsI N.length).map I):=by
 have key:=iter_rel (step:=E59L1 Ar.std (N.map dSta)) N.length (fun (s:List Int) i=>((i:Int),s.map I)) (fun i s=>s=numsI i) (fun s=>s.map I)
  (fun i s hi hR=>by
   subst hR
   refine ⟨_,rfl,?_⟩
   have hap:ap Ar.std ((numsI i).map I) [.int .i64 (i:Int)]=some ((numsI i++[(i:Int)]).map I):=ap_one I _ _ _ rfl (by rw [numsI_len];omega)
   unfold E59L1
   try dsimp only
   rw [ltM hi,cond_true,hap,bsome,incF hi (by omega)]
   have:numsI (i+1)=numsI i++[(i:Int)]:=by unfold numsI;rw [List.range_succ,List.map_append];rfl
   rw [this])
  (fun s _=>by
   unfold E59L1
   try dsimp only
   rw [geM,cond_false])
  [] (by unfold numsI;simp)
 obtain ⟨s,rfl,e⟩:=key
 exact e
section
variable {F:List Fen} {M:List (D×D)} {L:Fen->Int} (t b:Int)
theorem min_loop (hT:TellsL F M L) (hb:b<=1000) : ∀ (k:Nat) (g m:Int),g+(k:Int)=b->0<=g->(∀ g',g<=g'->g'<b->(t,g')∈F)->iter (E59L2 Ar.std M t b) (m,g)=some (minL m ((upFrom g k).map fun g=>L (t,g)))
 | 0,g,m,hg,h0,hf=>by
   refine iter_inr ?_
   unfold E59L2
   try dsimp only
   rw [std_zlt,decide_eq_false (by omega),cond_false];rfl
 | k+1,g,m,hg,h0,hf=>by
   have hm:=hT (t,g) (hf g (Int.le_refl _) (by omega))
   have hs:E59L2 Ar.std M t b (m,g)=some (.inl ((if L (t,g)<m then L (t,g) else m),g+1)):=by
    unfold E59L2
    try dsimp only
    rw [std_zlt,decide_eq_true (by omega),cond_true,dFen_agg,lk_I hm,bsome]
    show ((some (Ar.std.zmin m (L (t,g)))).bind fun v144=>some (Sum.inl (v144,Ar.std.wrp .i64 (Ar.std.zadd g 1))))=_
    rw [bsome,std_zmin,std_wrp,std_zadd,i64w _ (by omega) (by omega)]
   rw [iter_inl hs,min_loop hT hb k (g+1) _ (by omega) (by omega) (fun g' h1 h2=>hf g' (by omega) h2)]
   rfl
theorem pay_loop (p:Int) (hp:0<=p/\p<=9) (hb:b<=1000) : ∀ (k:Nat) (g:Int) (M:List (D×D)) (L:Fen->Int),TellsL F M L->(∀ f∈F,0<=L f/\L f<=9)->g+(k:Int)=b->0<=g->(∀ g',g<=g'->g'<b->(t,g')∈F)->(∀ g',g<=g'->g'<b->p<=L (t,g')) ->
  ∃ M',iter (E59L3 Ar.std t b p) (g,M)=some M'/\TellsL F M' (fun f=>if f.1=t/\g<=f.2/\f.2<b then L f-p else L f)
 | 0,g,M,L,hT,h9,hg,h0,hf,hle=>by
   refine ⟨M,iter_inr ?_,fun f hm => ?_⟩
   ·unfold E59L3
    try dsimp only
    rw [std_zlt,decide_eq_false (by omega),cond_false]
   ·dsimp only
    rw [if_neg (by omega)];exact hT f hm
 | k+1,g,M,L,hT,h9,hg,h0,hf,hle=>by
   have hgF:=hf g (Int.le_refl _) (by omega)
   have hm:=hT (t,g) hgF
   have h9g:=h9 _ hgF
   have hpl:=hle g (Int.le_refl _) (by omega)
   have hs:E59L3 Ar.std t b p (g,M)=some (.inl (g+1,mput M (dFen (t,g)) (I (L (t,g)-p)))):=by
    unfold E59L3
    try dsimp only
    rw [std_zlt,decide_eq_true (by omega),cond_true,dFen_agg,lk_I hm,bsome]
    show ((ck (Ar.std.mhas M (Ar.std.midx M (dFen (t,g))))).bind fun _=>some (Sum.inl (Ar.std.wrp .i64 (Ar.std.zadd g 1),Ar.std.mset M (Ar.std.midx M (dFen (t,g))) (.int .i64 (Ar.std.wrp .i64 (Ar.std.zsub (L (t,g)) p))))))=_
    rw [mhas_ok hm,bsome,mset_mput hm,std_wrp,std_zadd,std_wrp,std_zsub,i64w _ (by omega) (by omega),i64w _ (by omega) (by omega)]
   have hT1:TellsL F (mput M (dFen (t,g)) (I (L (t,g)-p))) (fun f=>if f=(t,g) then L f-p else L f):=fun f hm'=>by
    rw [mget_mput]
    by_cases he:f=(t,g)
    ·subst he;rw [if_pos rfl];dsimp only;rw [if_pos rfl]
    ·rw [if_neg (fun e=>he (dFen_inj _ _ e).symm)]
     dsimp only
     rw [if_neg he];exact hT f hm'
   obtain ⟨M',e,hT'⟩:=pay_loop p hp hb k (g+1) _ _ hT1 (fun f hm'=>by
     have:=h9 f hm'
     try dsimp only
     split
     ·rename_i he;subst he;omega
     ·exact this) (by omega) (by omega) (fun g' h1 h2=>hf g' (by omega) h2) (fun g' h1 h2=>by
     try dsimp only
     rw [if_neg (by simp;omega)]
     exact hle g' (by omega) h2)
   refine ⟨M',by rw [iter_inl hs];exact e,fun f hm' => ?_⟩
   rw [hT' f hm']
   obtain ⟨u,h⟩:=f
   dsimp only
   by_cases he:u=t/\h=g
   ·obtain ⟨rfl,rfl⟩:=he
    rw [if_neg (by omega),if_pos rfl,if_pos (by omega)]
   ·have hne : ¬ ((u,h):Fen)=(t,g):=fun e=>he (by simpa using e)
    rw [if_neg hne]
    by_cases hr:u=t/\g+1<=h/\h<b
    ·rw [if_pos hr,if_pos ⟨hr.1,by omega,hr.2.2⟩]
    ·rw [if_neg hr,if_neg (fun h'=>hr ⟨h'.1,by have:=h'.2.1;have : ¬ h=g:=fun e=>he ⟨h'.1,e⟩;omega,h'.2.2⟩)]
end
def pairN (N:List Sta) (o:Int):Sta:=N.getD o.toNat (0,0,0)
section
variable {F:List Fen} {N:List Sta} (order:List Int) (hN:N.length<=1000) (hord:order.Perm (numsI N.length)) (hIn : ∀ s∈N,InF F s/\0<=s.2.1/\s.2.2<=1000)
include hN hord hIn
theorem E59L4_ok (M0:List (D×D)) (L0:Fen->Int) (hT:TellsL F M0 L0) (h9 : ∀ f∈F,0<=L0 f/\L0 f<=9) :
  ∃ out:List Int,iter (E59L4 Ar.std (N.map dSta) (order.map I)) (0,M0,(List.replicate N.length 0).map I)=some (out.map I)/\out.length=N.length /\
    ∀ j,j<order.length->out.getD (order.getD j 0).toNat 0=(greedy 9 (order.map (pairN N)) L0).getD j 0:=by
 have hlen:order.length=N.length:=by rw [hord.length_eq,numsI_len]
 have hnd:order.Nodup:=hord.nodup_iff.2 (numsI_nodup _)
 have key:=iter_rel (step:=E59L4 Ar.std (N.map dSta) (order.map I)) order.length (fun (s:List (D×D)×List Int) i=>((i:Int),s.1,s.2.map I))
  (fun i s => ∃ (L:Fen->Int) (done:List Int),TellsL F s.1 L/\(∀ f∈F,0<=L f/\L f<=9)/\greedy 9 (order.map (pairN N)) L0=done++greedy 9 ((order.drop i).map (pairN N)) L/\done.length=i/\s.2.length=N.length /\
   ∀ j,j<i->s.2.getD (order.getD j 0).toNat 0=done.getD j 0) (fun s=>s.2.map I)
  (fun i s hi ⟨L,done,r1,r2,r3,r4,r5,r6⟩=>by
   obtain ⟨M,out⟩:=s
   dsimp only at r1 r5 r6 ⊢
   have ho:=zp1 hi
   obtain ⟨o0,oN⟩:=mem_numsI.1 (hord.mem_iff.1 (zp6 hi))
   obtain ⟨o,hoe⟩ : ∃ o,order[i]=o:=⟨_,rfl⟩
   rw [hoe] at ho o0 oN
   have hoN:o.toNat<N.length:=by omega
   have hs:=zp1 hoN
   have hsm:=zp6 hoN
   obtain ⟨s,hse⟩ : ∃ s,N[o.toNat]=s:=⟨_,rfl⟩
   rw [hse] at hs hsm
   obtain ⟨hI,ha0,hb1⟩:=hIn s hsm
   have hpair:pairN N o=s:=by unfold pairN;rw [List.getD_eq_getElem?_getD,hs];rfl
   have hto:((o.toNat:Nat):Int)=o:=by omega
   have hgt:gt Ar.std codS (N.map dSta) o=some s:=by have:=gt_sta hs;rwa [hto] at this
   have hFin : ∀ g',s.2.1<=g'->g'<s.2.2->((s.1,g'):Fen)∈F:=fun g' h1 h2=>hI.2 (s.1,g') ((holds_iff _ _).2 ⟨rfl,h1,h2⟩)
   have hk:s.2.1+((s.2.2-s.2.1).toNat:Int)=s.2.2:=by have:=hI.1;omega
   have e2:=min_loop (F:=F) (M:=M) (L:=L) s.1 s.2.2 r1 hb1 (s.2.2-s.2.1).toNat s.2.1 9 hk ha0 hFin
   have hmx : ∀ f∈F,L f<=9:=fun f hf=>(r2 f hf).2
   have h0x : ∀ f∈F,0<=L f:=fun f hf=>(r2 f hf).1
   have hpo:minL 9 ((upFrom s.2.1 (s.2.2-s.2.1).toNat).map fun g=>L (s.1,g))=priceOf 9 L s:=rfl
   rw [hpo] at e2
   have hp0:=price_nonneg hI hmx h0x
   have hp9:priceOf 9 L s<=9:=(minL_le _ 9).1
   obtain ⟨M',e3,hT'⟩:=pay_loop (F:=F) s.1 s.2.2 (priceOf 9 L s) ⟨hp0,hp9⟩ hb1 (s.2.2-s.2.1).toNat s.2.1 M L r1 r2 hk ha0 hFin (fun g' h1 h2=>price_le ((holds_iff (s.1,g') s).2 ⟨rfl,h1,h2⟩))
   obtain ⟨a1,a2⟩:=pay_ok hI hmx h0x
   have ho2:o.toNat<out.length:=by omega
   have hgo:=gcI1 (zp1 ho2)
   refine ⟨(M',out.set o.toNat (priceOf 9 L s)),⟨payL L s (priceOf 9 L s),done++[priceOf 9 L s],?_,fun f hf=>⟨a2 f hf,a1 f hf⟩,?_,?_,?_,?_⟩,?_⟩
   ·intro f hf
    try dsimp only
    rw [hT' f hf]
    dsimp only
    unfold payL
    by_cases hh:f.1=s.1/\s.2.1<=f.2/\f.2<s.2.2
    ·rw [if_pos hh,if_pos ((holds_iff f s).2 hh)]
    ·rw [if_neg hh,if_neg (fun h=>hh ((holds_iff f s).1 h))]
   ·rw [r3,List.drop_eq_getElem_cons hi,List.map_cons,hoe,hpair,List.append_assoc];rfl
   ·rw [List.length_append,r4];rfl
   ·rw [List.length_set];exact r5
   ·intro j hj
    rw [getDset ho2]
    by_cases hji:j=i
    ·subst hji
     have:order.getD j 0=o:=by rw [List.getD_eq_getElem?_getD,ho];rfl
     rw [this,if_pos rfl,List.getD_eq_getElem?_getD,zp8 (by omega),r4]
     simp
    ·have hjl:j<i:=by omega
     have hjo:j<order.length:=by omega
     have hoj:order.getD j 0=order[j]:=by rw [List.getD_eq_getElem?_getD,zp1 hjo];rfl
     obtain ⟨q0,qN⟩:=mem_numsI.1 (hord.mem_iff.1 (zp6 hjo))
     have hne:order[j]≠order[i]:=List.pairwise_iff_getElem.1 (List.nodup_iff_pairwise_ne.1 hnd) j i hjo hi hjl
     rw [hoe] at hne
     rw [if_neg (by rw [hoj];omega),r6 j hjl,List.getD_eq_getElem?_getD,List.getD_eq_getElem?_getD,zp7 (by omega)]
   ·have c1:ck (Ar.std.zle 0 (i:Int))=some ():=ck_of (by rw [std_zle];exact decide_eq_true (by omega))
    have c2:ck (Ar.std.zlt (i:Int) (Ar.std.len (order.map I)))=some ():=ck_of (ltM hi)
    have c3:ck (Ar.std.zle 0 o)=some ():=ck_of (by rw [std_zle];exact decide_eq_true o0)
    have c4:ck (Ar.std.zlt o (Ar.std.len (out.map I)))=some ():=ck_of (by rw [std_zlt,std_len,List.length_map];exact decide_eq_true (by omega))
    have n1:Ar.std.nat (i:Int)=i:=by simp
    have n2:Ar.std.nat o=o.toNat:=rfl
    have l0:Ar.std.lset (out.map I) o.toNat (.int .i64 (priceOf 9 L s))=(out.set o.toNat (priceOf 9 L s)).map I:=List.map_set.symm
    unfold E59L4
    try dsimp only
    rw [ltM hi,cond_true,c1,bsome,ck_true,bsome,n1,gcI1 ho,bsome,hgt,bsome]
    try dsimp only
    rw [e2,bsome,e3,bsome,c3,bsome,c4,bsome,n2,hgo,bsome,l0,incF hi (by omega)])
  (fun s _=>by
   unfold E59L4
   try dsimp only
   rw [geM,cond_false])
  (M0,List.replicate N.length 0) ⟨L0,[],hT,h9,by simp,rfl,by simp,fun j hj=>absurd hj (Nat.not_lt_zero j)⟩
 obtain ⟨s,⟨L,done,r1,r2,r3,r4,r5,r6⟩,e⟩:=key
 refine ⟨s.2,e,r5,fun j hj => ?_⟩
 rw [r6 j hj,r3,List.drop_length]
 show done.getD j 0=(done++[]).getD j 0
 rw [List.append_nil]
theorem zip_perm (L0:Fen->Int) (out:List Int) (hl:out.length=N.length) (ho : ∀ j,j<order.length->out.getD (order.getD j 0).toNat 0=(greedy 9 (order.map (pairN N)) L0).getD j 0) :
  (N.zip out).Perm ((order.map (pairN N)).zip (greedy 9 (order.map (pairN N)) L0)):=by
 have hlen:order.length=N.length:=by rw [hord.length_eq,numsI_len]
 have h1:N.zip out=(numsI N.length).map fun o=>(pairN N o,out.getD o.toNat 0):=by
  apply List.ext_getElem?
  intro i
  by_cases hi:i<N.length
  ·have e:(numsI N.length)[i]?=some (i:Int):=by unfold numsI;simp [hi]
   have hio:i<out.length:=by omega
   have ez:(N.zip out)[i]?=some (N[i],out[i]):=List.getElem?_zip_eq_some.2 ⟨zp1 hi,zp1 hio⟩
   rw [List.getElem?_map,e,ez]
   simp [pairN,List.getD_eq_getElem?_getD,hi,show i<out.length by omega]
  ·rw [List.getElem?_eq_none (by rw [List.length_zip];omega),List.getElem?_eq_none (by rw [List.length_map,numsI_len];omega)]
 have h2:(order.map (pairN N)).zip (greedy 9 (order.map (pairN N)) L0)=order.map fun o=>(pairN N o,out.getD o.toNat 0):=by
  have hgl:(greedy 9 (order.map (pairN N)) L0).length=order.length:=by rw [greedy_len,List.length_map]
  apply List.ext_getElem?
  intro i
  by_cases hi:i<order.length
  ·have h:=ho i hi
   rw [List.getD_eq_getElem?_getD (l:=order),zp1 hi] at h
   rw [List.getD_eq_getElem?_getD (l:=greedy 9 (order.map (pairN N)) L0),zp1 (show i<(greedy 9 (order.map (pairN N)) L0).length by omega)] at h
   have him:i<(order.map (pairN N)).length:=by rw [List.length_map];exact hi
   have hig:i<(greedy 9 (order.map (pairN N)) L0).length:=by omega
   have ez:((order.map (pairN N)).zip (greedy 9 (order.map (pairN N)) L0))[i]?=some ((order.map (pairN N))[i],(greedy 9 (order.map (pairN N)) L0)[i]):=List.getElem?_zip_eq_some.2 ⟨zp1 him,zp1 hig⟩
   rw [ez]
   rw [List.getElem?_map,zp1 hi,List.getElem_map]
   simp only [Option.getD_some] at h
   rw [Option.map_some,h]
  ·rw [List.getElem?_eq_none (by rw [List.length_zip,List.length_map];omega),List.getElem?_eq_none (by rw [List.length_map];omega)]
 rw [h1,h2]
 exact (hord.map _).symm
end
end Go.Am

namespace Go.Am
open Go Go.Proofs
theorem needed_in {x:List (List Acc)} (hv:valid x=true) : ∀ s∈neededL x,InF (fencesL x) s/\0<=s.2.1/\s.2.2<=1000:=by
 intro s hs
 obtain ⟨h1,hp,_⟩:=(mem_needed_iff x).1 hs
 obtain ⟨i1,i2,i3,i4,i5,_⟩:=mem_stations_iff.1 h1
 obtain ⟨_,_,h3⟩:=valid_rows hv
 have hlt:s.2.1<s.2.2:=by
  unfold isPair at hp
  simp only [zp4,decide_eq_true_eq] at hp
  exact hp.1.1.1
 have htx:s.1.toNat<x.length:=by omega
 have hr:(x.getD s.1.toNat []).length<=4:=by
  rw [List.getD_eq_getElem?_getD,zp1 htx]
  exact h3 _ (zp6 htx)
 refine ⟨⟨hlt,fun f hf => ?_⟩,i3,by omega⟩
 obtain ⟨e1,e2,e3⟩:=(holds_iff f s).1 hf
 refine mem_fencesL.2 ⟨by omega,by omega,by omega,?_⟩
 rw [e1]
 unfold rl
 omega
theorem held_ex {l:List Fen} {s:Sta}:heldF l s=true ↔ ∃ f∈l,holdsF f s=true:=by unfold heldF;rw [List.any_eq_true]
theorem enough_ex {l:List Fen} {q:List Sta}:enoughF l q=true ↔ ∀ s∈q,∃ f∈l,holdsF f s=true:=by
 unfold enoughF
 rw [List.all_eq_true]
 exact ⟨fun h s hs=>held_ex.1 (h s hs),fun h s hs=>held_ex.2 (h s hs)⟩
theorem sumW_perm {α:Type} {l m:List α} (h:l.Perm m) (w:α->Int):sumW l w=sumW m w:=sum_perm (h.map w)
theorem sumW_snd {N:List Sta} {ps:List Int} (h:ps.length=N.length):sumW (N.zip ps) (fun q=>q.2)=ps.sum:=by
 unfold sumW
 rw [show (N.zip ps).map (fun q=>q.2)=ps from List.map_snd_zip (by omega)]
section
variable {x:List (List Acc)} {c:List (List Int)} (hv:valid x=true) (hp:pricedB x c=true)
include hv hp
theorem cost_sum {S:List Fen} (hS:S.Sublist (fencesL x)):costF c S=sumW (fencesL x) (fun f=>if f∈S then priceF c f else 0):=by
 refine (sumW_sub hS (fencesL_nodup x) (priceF c)).trans (sumW_congr fun f _ => ?_)
 by_cases h:f∈S
 ·rw [if_pos h,if_pos h]
 ·rw [if_neg h,if_neg h]
theorem weak_ok {ps:List Int} (hl:ps.length=(neededL x).length) (h0:ps.all in100=true) (hf:fitsB c (fencesL x) ((neededL x).zip ps)=true) {S:List Fen} (hS:EnoughP x (neededL x) S):ps.sum<=costF c S:=by
 rw [cost_sum hv hp hS.1,<-sumW_snd hl]
 have hpp : ∀ n∈ps,0<=n/\n<=100:=fun n hn=>(in100_iff n).1 (List.all_eq_true.1 h0 n hn)
 refine Int.le_trans (weak (F:=fencesL x) (c:=priceF c) (fun f=>f∈S) ((neededL x).zip ps) (fun q hq=>(zip_in hpp q hq).1) (fun q hq => ?_)) (sumW_le fun f hfm => ?_)
 ·obtain ⟨f,h1,h2⟩:=enough_ex.1 hS.2 q.1 (List.of_mem_zip hq).1
  exact ⟨f,hS.1.subset h1,h1,h2⟩
 ·have:=List.all_eq_true.1 hf f hfm
  rw [decide_eq_true_eq] at this
  split
  ·exact this
  ·exact Int.le_refl _
theorem own_ok : ∃ out:List Int,E59 Ar.std (x.map dAccs) (c.map dRow)=some (out.map I,0)/\out.length=(neededL x).length/\out.all in100=true/\fitsB c (fencesL x) ((neededL x).zip out)=true /\
  ∃ S,EnoughP x (neededL x) S/\costF c S<=out.sum:=by
 have hN:=needed_18 hv
 have hc:=cost_okC hv hp
 have hIn:=needed_in hv
 have h19 : ∀ f∈fencesL x,1<=priceF c f/\priceF c f<=9:=fun f hf=>price_19 (valid_bg hv) hc [] (by simp) hp hf
 have h9 : ∀ f∈fencesL x,0<=priceF c f/\priceF c f<=9:=fun f hf=>by have:=h19 f hf;omega
 obtain ⟨M,hM,hT⟩:=E59L0_ok (c:=c) (fences_le hv) (fun f hf=>inCost_of hp hf)
 obtain ⟨order,hord,hsort,e107⟩:=E107_ok (neededL x) (numsI (neededL x).length) M (by rw [numsI_len];omega) (fun a ha=>mem_numsI.1 ha)
 have hol:order.length=(neededL x).length:=by rw [hord.length_eq,numsI_len]
 obtain ⟨out,e4,hl,ho⟩:=E59L4_ok order (by omega) hord hIn M (priceF c) hT h9
 have hperm:=zip_perm order (by omega) hord hIn (priceF c) out hl ho
 obtain ⟨Q,hQ⟩ : ∃ Q,order.map (pairN (neededL x))=Q:=⟨_,rfl⟩
 rw [hQ] at hperm
 have hQm : ∀ s∈Q,s∈neededL x:=fun s hs=>by
  rw [<-hQ] at hs
  obtain ⟨o,ho,rfl⟩:=List.mem_map.1 hs
  obtain ⟨o0,oN⟩:=mem_numsI.1 (hord.mem_iff.1 ho)
  have:o.toNat<(neededL x).length:=by omega
  unfold pairN
  rw [List.getD_eq_getElem?_getD,zp1 this]
  exact zp6 this
 have hQI : ∀ s∈Q,InF (fencesL x) s:=fun s hs=>(hIn s (hQm s hs)).1
 have hQl:Q.length=(neededL x).length:=by rw [<-hQ,List.length_map,hol]
 have hsorted:Q.Pairwise (fun s u=>s.2.2<=u.2.2):=by
  rw [<-hQ,List.pairwise_map,List.pairwise_iff_getElem]
  intro i j hi hj hij
  have:=hsort i j hij (by rw [numsI_len];omega)
  unfold keyAt at this
  rw [List.getD_eq_getElem?_getD,zp1 hi,List.getD_eq_getElem?_getD,zp1 hj] at this
  exact this
 have hmx : ∀ f∈fencesL x,priceF c f<=9:=fun f hf=>(h9 f hf).2
 have h0x : ∀ f∈fencesL x,0<=priceF c f:=fun f hf=>(h9 f hf).1
 have hnn:=greedy_nonneg (mx:=9) (F:=fencesL x) Q (priceF c) hQI hmx h0x
 have hfit:=greedy_fits (mx:=9) (F:=fencesL x) Q (priceF c) hQI hmx h0x
 obtain ⟨φ,hd,s1,s2⟩:=greedy_strong (mx:=9) (F:=fencesL x) (fencesL_nodup x) Q (priceF c) hsorted hQI hmx h0x
 have hgl:(greedy 9 Q (priceF c)).length=Q.length:=greedy_len 9 Q _
 have hsum:out.sum=(greedy 9 Q (priceF c)).sum:=by
  rw [<-sumW_snd hl,sumW_perm hperm,sumW_snd hgl]
 refine ⟨out,?_,hl,?_,?_,(fencesL x).filter (fun f=>decide (φ f)),⟨List.filter_sublist,?_⟩,?_⟩
 ·have he:errF x c=0:=by unfold errF;rw [hv,hp];rfl
  have e98:=E98_eq (valid_bg hv) hc
  rw [he] at e98
  have z0:Ar.std.zeq 0 0=true:=rfl
  have c1:ck (Ar.std.zeq (Ar.std.len ((neededL x).map dSta)) (Ar.std.len ((neededL x).map dSta)))=some ():=ck_of (by simp)
  have c2:ck (Ar.std.zle 0 (Ar.std.len ((neededL x).map dSta)))=some ():=ck_of (by rw [std_zle,std_len];exact decide_eq_true (by omega))
  have c3:ck (Ar.std.fits (Ar.std.len ((neededL x).map dSta)))=some ():=ck_of (by
   rw [std_fits,std_len,List.length_map];exact decide_eq_true (by omega))
  have hrep:Ar.std.rep (Ar.std.len ((neededL x).map dSta)) (.int .i64 0)=(List.replicate (neededL x).length (0:Int)).map I:=by
   rw [std_rep,std_len,List.length_map,Int.toNat_natCast,List.map_replicate]
  unfold E59
  rw [e98,bsome,z0,cond_true,E77_eq hv,bsome,E104_eq hv,bsome,hM,bsome,E59L1_ok _ (by omega),bsome,e107,bsome,c1,bsome,c2,bsome,c3,bsome,hrep,e4,bsome]
 ·rw [List.all_eq_true]
  intro n hn
  have:n∈(List.map (fun q:Sta×Int=>q.2) ((neededL x).zip out)):=by
   rw [show ((neededL x).zip out).map (fun q=>q.2)=out from List.map_snd_zip (by omega)];exact hn
  obtain ⟨q,hq,rfl⟩:=List.mem_map.1 this
  have:=hnn q.2 (List.of_mem_zip (hperm.mem_iff.1 hq)).2
  exact (in100_iff _).2 (by omega)
 ·unfold fitsB
  rw [List.all_eq_true]
  intro f hf
  rw [decide_eq_true_eq]
  have:=hfit f hf
  unfold paid at this ⊢
  rw [sumW_perm hperm];exact this
 ·refine enough_ex.2 fun s hs => ?_
  have hsQ:s∈Q:=by
   obtain ⟨i,hi,rfl⟩:=List.getElem_of_mem hs
   rw [<-hQ]
   refine List.mem_map.2 ⟨(i:Int),hord.mem_iff.2 (mem_numsI.2 ⟨by omega,by omega⟩),?_⟩
   unfold pairN
   rw [Int.toNat_natCast,List.getD_eq_getElem?_getD,zp1 hi];rfl
  obtain ⟨f,f1,f2,f3⟩:=s1 s hsQ
  exact ⟨f,List.mem_filter.2 ⟨f1,decide_eq_true f2⟩,f3⟩
 ·rw [hsum]
  refine Int.le_trans (Int.le_of_eq ?_) s2
  rw [cost_sum hv hp List.filter_sublist]
  refine sumW_congr fun f hf => ?_
  by_cases h:φ f
  ·rw [if_pos h,if_pos (List.mem_filter.2 ⟨hf,decide_eq_true h⟩)]
  ·have hno : ¬ f∈(fencesL x).filter (fun f=>decide (φ f)):=fun hm=>by
    have hm2:decide (φ f)=true:=(List.mem_filter.1 hm).2
    exact h (of_decide_eq_true hm2)
   rw [if_neg h,if_neg hno]
theorem cost_bound : ∀ {S:List Fen},S.Sublist (fencesL x)->(S.length:Int)<=costF c S/\costF c S<=9*(S.length:Int):=by
 intro S hS
 have h19 : ∀ f∈S,1<=priceF c f/\priceF c f<=9:=fun f hf=>price_19 (valid_bg hv) (cost_okC hv hp) [] (by simp) hp (hS.subset hf)
 clear hS
 unfold costF
 induction S with
 | nil=>simp
 | cons f S ih =>
   have h1:=h19 f (by simp)
   have h2:=ih fun g hg=>h19 g (by simp [hg])
   rw [List.map_cons,List.sum_cons,List.length_cons]
   push_cast
   omega
theorem best_le {S T:List Fen} (h:Best (costF c) (EnoughP x (neededL x)) S) (hT:EnoughP x (neededL x) T):costF c S<=costF c T:=by
 have:=h.2 T hT
 rw [<-Bool.not_eq_true,bet_iff] at this
 omega
theorem own_prove {S:List Fen} (hb:Best (costF c) (EnoughP x (neededL x)) S) : ∃ out:List Int,E59 Ar.std (x.map dAccs) (c.map dRow)=some (out.map I,0)/\out.length=(neededL x).length /\
  proveT x c out (costF c S)=(true,0)/\proveT x c out (costF c S+1)=(false,0):=by
 obtain ⟨out,h1,h2,h3,h4,T,h5,h6⟩:=own_ok hv hp
 have hle:=weak_ok hv hp h2 h3 h4 hb.1
 have hge:=best_le hv hp hb h5
 have hcb:=cost_bound hv hp hb.1.1
 have h61:S.length<=61:=Nat.le_trans hb.1.1.length_le (fences_le hv)
 have he:errF x c=0:=by unfold errF;rw [hv,hp];rfl
 refine ⟨out,h1,h2,?_,?_⟩
 ·unfold proveT
  rw [if_pos he,if_pos ⟨h2,h3,by omega,by omega⟩,h4,decide_eq_true (by omega)];rfl
 ·unfold proveT
  rw [if_pos he,if_pos ⟨h2,h3,by omega,by omega⟩,h4,decide_eq_false (by omega)];rfl
end
end Go.Am

namespace Go.Am
open Go Go.Proofs
theorem cmpF_lt (f g:Fen) : ¬ 0<=cmpF f g↔ltFen f g=true:=by
 rw [ltFen_iff]
 unfold cmpF cmpI
 by_cases h1:f.1<g.1
 ·simp [h1]
 ·by_cases h2:g.1<f.1
  ·simp [h1,h2];omega
  ·have e:f.1=g.1:=by omega
   simp [h1,h2,e]
   by_cases h3:f.2<g.2
   ·simp [h3]
   ·by_cases h4:g.2<f.2 <;> simp [h3,h4]
def Asc (l:List Fen):Prop:=l.Pairwise fun f g=>ltFen f g=true
theorem fencesB_asc {x:List (List Acc)} {l:List Fen} (h:fencesB x l=true):Asc l:=by
 unfold fencesB at h
 simp only [List.all_eq_true,List.mem_range] at h
 have hnext : ∀ i,i+1<l.length->ltFen (l.getD i (0,0)) (l.getD (i+1) (0,0))=true:=fun i hi=>by
  have:=h (i+1) hi
  unfold fenAt at this
  simp only [zp4,Bool.or_eq_true,decide_eq_true_eq,Bool.not_eq_true',decide_eq_false_iff_not,Nat.add_sub_cancel] at this
  rcases this.2 with h0 | h0
  ·omega
  ·exact (cmpF_lt _ _).1 h0
 have hlt : ∀ k i,i+k+1<l.length->ltFen (l.getD i (0,0)) (l.getD (i+k+1) (0,0))=true:=fun k=>by
  induction k with
  | zero=>intro i hi;exact hnext i hi
  | succ k ih =>
    intro i hi
    have h1:=ih i (by omega)
    have h2:=hnext (i+k+1) (by omega)
    rw [show i+(k+1)+1=i+k+1+1 by omega]
    exact ltFen_tr h1 h2
 unfold Asc
 rw [List.pairwise_iff_getElem]
 intro i j hi hj hij
 have:=hlt (j-i-1) i (by omega)
 rw [show i+(j-i-1)+1=j by omega,List.getD_eq_getElem?_getD,List.getD_eq_getElem?_getD,zp1 hi,zp1 hj] at this
 exact this
theorem asc_fencesB {x:List (List Acc)} {l:List Fen} (h:Asc l) (hm : ∀ f∈l,f∈fencesL x):fencesB x l=true:=by
 unfold fencesB
 rw [List.all_eq_true]
 intro i hi
 rw [List.mem_range] at hi
 have e:l.getD i (0,0)=l[i]:=by rw [List.getD_eq_getElem?_getD,zp1 hi];rfl
 unfold fenAt
 rw [e,zp4,Bool.or_eq_true,List.contains_eq_mem,decide_eq_true_eq]
 refine ⟨hm _ (zp6 hi),?_⟩
 by_cases h0:i=0
 ·exact .inl (decide_eq_true h0)
 ·refine .inr ?_
  have hi1:i-1<l.length:=by omega
  have e1:l.getD (i-1) (0,0)=l[i-1]:=by rw [List.getD_eq_getElem?_getD,zp1 hi1];rfl
  rw [e1,Bool.not_eq_true',decide_eq_false_iff_not]
  exact (cmpF_lt _ _).2 (List.pairwise_iff_getElem.1 h (i-1) i hi1 hi (by omega))
theorem asc_sub : ∀ {L l:List Fen},Asc L->Asc l->(∀ f∈l,f∈L)->l.Sublist L
 | L,[],_,_,_=>List.nil_sublist L
 | [],f::l,_,_,hm=>absurd (hm f (by simp)) (by simp)
 | g::L,f::l,hL,hl,hm=>by
   have hL':=hL
   have hl':=hl
   unfold Asc at hL' hl'
   rw [List.pairwise_cons] at hL' hl'
   by_cases e:f=g
   ·subst e
    refine (asc_sub hL'.2 hl'.2 fun u hu => ?_).cons_cons f
    rcases List.mem_cons.1 (hm u (by simp [hu])) with rfl | h
    ·have:=hl'.1 u hu;rw [ltFen_irr] at this;cases this
    ·exact h
   ·have hfL:f∈L:=(List.mem_cons.1 (hm f (by simp))).resolve_left e
    refine (asc_sub hL'.2 hl fun u hu => ?_).cons g
    rcases List.mem_cons.1 hu with rfl | hu'
    ·exact hfL
    ·rcases List.mem_cons.1 (hm u hu) with rfl | h
     ·have h1:=hl'.1 u hu'
      have h2:=hL'.1 f hfL
      have:=ltFen_tr h1 h2
      rw [ltFen_irr] at this;cases this
     ·exact h
theorem fencesL_asc (x:List (List Acc)):Asc (fencesL x):=by
 have row : ∀ t n,Asc (fenRow t n):=fun t n=>by
  unfold Asc fenRow
  rw [List.pairwise_map]
  refine List.Pairwise.imp ?_ List.pairwise_lt_range
  intro a b hab
  exact (ltFen_iff _ _).2 (.inr ⟨rfl,by dsimp only;omega⟩)
 have memT : ∀ n,∀ f∈fenT x n,f.1<(n:Int):=fun n f hf=>by
  unfold fenT at hf
  obtain ⟨t,ht,hf⟩:=List.mem_flatMap.1 hf
  unfold fenRow at hf
  obtain ⟨g,_,rfl⟩:=List.mem_map.1 hf
  have:=List.mem_range.1 ht
  dsimp only;omega
 have all : ∀ n,Asc (fenT x n):=fun n=>by
  induction n with
  | zero=>unfold fenT Asc;simp
  | succ n ih =>
    rw [fenT_succ]
    unfold Asc at ih ⊢
    rw [List.pairwise_append]
    refine ⟨ih,row _ _,fun f hf g hg => ?_⟩
    have h1:=memT n f hf
    unfold fenRow at hg
    obtain ⟨k,_,rfl⟩:=List.mem_map.1 hg
    exact (ltFen_iff _ _).2 (.inl h1)
 exact all x.length
theorem sub_fencesB {x:List (List Acc)} {S:List Fen} (h:S.Sublist (fencesL x)):fencesB x S=true :=
 asc_fencesB (List.Pairwise.sublist h (fencesL_asc x)) fun f hf=>h.subset hf
theorem fencesB_sub {x:List (List Acc)} {l:List Fen} (h:fencesB x l=true):l.Sublist (fencesL x) :=
 asc_sub (fencesL_asc x) (fencesB_asc h) (fencesB_mem h)
section
variable {x:List (List Acc)} {c:List (List Int)} (hv:valid x=true) (hp:pricedB x c=true)
include hv
theorem E85_eq {l:List Fen} (hl:l.length<=1000000000):E85 Ar.std (x.map dAccs) (l.map dFen)=some (if fencesB x l then (l.map dFen,0) else ([],2)):=by
 unfold E85 ofX ofF
 rw [dec_eq dAccs_inj (valid_bg hv),bsome,dec_eq dFen_inj (show LenOk 1000000000 l from hl),Option.map_some]
 unfold fencedT
 rw [hv,if_pos rfl]
 cases fencesB x l <;> rfl
theorem E40_ok {l:List Fen} (hl:l.length<=1000000000) (h:fencesB x l=true):E40 Ar.std (x.map dAccs) (l.map dFen)=some (enoughF l (neededL x),0):=by
 have z0:Ar.std.zeq 0 0=true:=rfl
 unfold E40
 rw [E85_eq hv hl,h,if_pos rfl,bsome]
 try dsimp only
 rw [z0,cond_true,E77_eq hv,bsome,E91_eq l _ hl (needed_len hv),bsome,bsome]
theorem E40_no {l:List Fen} (hl:l.length<=1000000000) (h:fencesB x l=false):E40 Ar.std (x.map dAccs) (l.map dFen)=some (false,2):=by
 unfold E40
 rw [E85_eq hv hl,h,if_neg (by simp),bsome]
 rfl
include hp
theorem E42_ok {l:List Fen} (hl:l.length<=1000000000) (h:fencesB x l=true):E42 Ar.std (x.map dAccs) (c.map dRow) (l.map dFen)=some (costF c l,0):=by
 have z0:Ar.std.zeq 0 0=true:=rfl
 have hc:=cost_okC hv hp
 have e93:E93 Ar.std (x.map dAccs) (c.map dRow)=some true:=by
  unfold E93 ofS ofC
  rw [dec_eq dAccs_inj (valid_sm hv),bsome,dec_eq dRow_inj hc,Option.map_some,hp]
 unfold E42
 rw [E85_eq hv hl,h,if_pos rfl,bsome]
 try dsimp only
 rw [z0,cond_true,e93,bsome,Bool.not_true,bsome,cond_false,bsome,z0,cond_true,E94_eq c l hc hl (priced_09 hp) (fun f hf=>inCost_of hp (fencesB_mem h f hf)),bsome]
theorem E42_no {l:List Fen} (hl:l.length<=1000000000) (h:fencesB x l=false):E42 Ar.std (x.map dAccs) (c.map dRow) (l.map dFen)=some (0,2):=by
 unfold E42
 rw [E85_eq hv hl,h,if_neg (by simp),bsome]
 rfl
end
theorem none_enough (N:List Sta):enoughF [] N=decide (N.length=0):=by
 unfold enoughF heldF
 cases N with
 | nil=>rfl
 | cons s N=>simp
theorem E12_ok (x:List (List Acc)) (c:List (List Int)) (fe:List Fen) (ps:List Int) (k:Int) (hx:Big x) (hc:c.length<=9223372036854775807) (hcr : ∀ r∈c,r.length<=9223372036854775807) :
  E12 Ar.std (x.map dAccs) (c.map dRow) (fe.map dFen) (ps.map I) k=some true:=by
 have e13:E13 Ar.std (x.map dAccs)=some (long x):=by unfold E13 ofX;rw [dec_eq dAccs_inj hx];rfl
 unfold E12
 rw [e13,bsome]
 cases hlg:long x with
 | true=>rfl
 | false =>
   rw [cond_false,E14_eq hx,bsome]
   cases hv:valid x with
   | false=>rfl
   | true =>
     rw [cond_true,E50_eq x c (valid_sm hv).1 hc hcr,bsome]
     cases hp:pricedB x c with
     | false=>rfl
     | true =>
       rw [cond_true]
       by_cases h40:40<fe.length
       ·have:Ar.std.zlt 40 (Ar.std.len (fe.map dFen))=true:=by rw [std_zlt,std_len,List.length_map];exact decide_eq_true (by omega)
        rw [this];rfl
       by_cases h100:100<ps.length
       ·have h0:Ar.std.zlt 40 (Ar.std.len (fe.map dFen))=false:=by rw [std_zlt,std_len,List.length_map];exact decide_eq_false (by omega)
        have:Ar.std.zlt 100 (Ar.std.len (ps.map I))=true:=by rw [std_zlt,std_len,List.length_map];exact decide_eq_true (by omega)
        rw [h0,this];rfl
       have h0:Ar.std.zlt 40 (Ar.std.len (fe.map dFen))=false:=by rw [std_zlt,std_len,List.length_map];exact decide_eq_false (by omega)
       have h1:Ar.std.zlt 100 (Ar.std.len (ps.map I))=false:=by rw [std_zlt,std_len,List.length_map];exact decide_eq_false (by omega)
       rw [h0,cond_false,h1,bsome,cond_false]
       have hC:=cost_okC hv hp
       obtain ⟨S,hb,e53,e54,e52,e55⟩:=cheap_ok hv hp
       obtain ⟨out,e59,hl,p1,p2⟩:=own_prove hv hp hb
       have hN:=needed_18 hv
       have h61:S.length<=61:=Nat.le_trans hb.1.1.length_le (fences_le hv)
       have hcb:=cost_bound hv hp hb.1.1
       have e27:E27 Ar.std (x.map dAccs)=some ((neededL x).map dSta,0):=by
        unfold E27 ofX
        rw [dec_eq dAccs_inj hx,Option.map_some,hv,if_pos rfl]
       have z0:Ar.std.zeq 0 0=true:=rfl
       have zn : ∀ n:Int,Ar.std.zeq n n=true:=fun n=>by simp
       have hw:Ar.std.wrp .i64 (Ar.std.zadd (costF c S) 1)=costF c S+1:=by rw [std_wrp,std_zadd,i64w _ (by omega) (by omega)]
       have hSf:=sub_fencesB hb.1.1
       have hAll:=sub_fencesB (List.Sublist.refl (fencesL x))
       have hNil:fencesB x []=true:=rfl
       have hfl:(fencesL x).length<=1000000000:=Nat.le_trans (fences_le hv) (by decide)
       have e40n:E40 Ar.std (x.map dAccs) []=some (decide ((neededL x).length=0),0):=by
        have:=E40_ok hv (l:=[]) (by decide) hNil
        rw [none_enough] at this;exact this
       have hlen0:Ar.std.zeq (Ar.std.len ((neededL x).map dSta)) 0=decide ((neededL x).length=0):=by
        rw [std_zeq,std_len,List.length_map];exact decide_eq_decide.2 (by omega)
       have hleast0:Ar.std.zeq (costF c S) 0=decide ((neededL x).length=0):=by
        rw [std_zeq]
        refine decide_eq_decide.2 ⟨fun h => ?_,fun h => ?_⟩
        ·have hS0:S=[]:=List.eq_nil_of_length_eq_zero (by omega)
         have:=hb.1.2
         rw [hS0,none_enough] at this
         exact of_decide_eq_true this
        ·have hE:EnoughP x (neededL x) []:=⟨List.nil_sublist _,by rw [none_enough];exact decide_eq_true h⟩
         have:=best_le hv hp hb hE
         have e:costF c []=0:=rfl
         omega
       have bn : ∀ b:Bool,Ar.std.beq b b=true:=fun b=>by cases b <;> rfl
       rw [e53,bsome]
       try dsimp only
       rw [e52,bsome]
       try dsimp only
       rw [e59,bsome]
       try dsimp only
       rw [e27,bsome]
       try dsimp only
       rw [z0,cond_true,cond_true,cond_true,Bool.not_true,bsome,cond_false,E40_ok hv (by omega) hSf,bsome]
       try dsimp only
       rw [E42_ok hv hp (by omega) hSf,bsome]
       try dsimp only
       rw [E57_eq hx hC out (by omega),p1,bsome]
       try dsimp only
       rw [hw,E57_eq hx hC out (by omega),p2,bsome]
       try dsimp only
       rw [z0,cond_true,cond_true,cond_true,cond_true,hb.1.2,cond_true,zn,cond_true,cond_true,bsome,cond_false]
       rw [E60_eq (valid_sm hv).1,bsome,E40_ok hv hfl hAll,bsome]
       try dsimp only
       rw [e40n,bsome]
       try dsimp only
       rw [all_enough,z0,cond_true,cond_true,cond_true,hlen0,bn,cond_true,hleast0,bn,Bool.not_true,bsome,cond_false]
       have hfe:fe.length<=1000000000:=by omega
       have last:((E57 Ar.std (x.map dAccs) (c.map dRow) (ps.map I) k).bind fun (r91,r92) =>
         ((bif Ar.std.zeq r92 0 then bif r91 then bif Ar.std.zle k (costF c S) then (E15 Ar.std).bind fun r97=>some r97 else some false else (E15 Ar.std).bind fun r99=>some r99
           else bif Ar.std.zeq r92 2 then bif r91 then bif Ar.std.zle k (costF c S) then (E15 Ar.std).bind fun r104=>some r104 else some false else (E15 Ar.std).bind fun r106=>some r106 else some false:Option Bool)).bind fun v107=>some v107)=some true:=by
        rw [E57_eq hx hC ps (by omega),bsome]
        have he:errF x c=0:=by unfold errF;rw [hv,hp];rfl
        unfold proveT
        rw [if_pos he]
        by_cases hpr:ps.length=(neededL x).length/\ps.all in100=true/\0<=k/\k<=1000
        ·rw [if_pos hpr]
         try dsimp only
         rw [z0,cond_true]
         cases hf:fitsB c (fencesL x) ((neededL x).zip ps) with
         | false=>rfl
         | true =>
           have hle:=weak_ok hv hp hpr.1 hpr.2.1 hf hb.1
           by_cases hk:k<=ps.sum
           ·have:Ar.std.zle k (costF c S)=true:=by rw [std_zle];exact decide_eq_true (by omega)
            rw [decide_eq_true hk,this];rfl
           ·rw [decide_eq_false hk];rfl
        ·rw [if_neg hpr];rfl
       cases hff:fencesB x fe with
       | false =>
         rw [E40_no hv hfe hff,bsome]
         try dsimp only
         rw [E42_no hv hp hfe hff,bsome]
         exact last
       | true =>
         rw [E40_ok hv hfe hff,bsome]
         try dsimp only
         rw [E42_ok hv hp hfe hff,bsome]
         try dsimp only
         cases hen:enoughF fe (neededL x) with
         | false=>exact last
         | true =>
           have:=best_le hv hp hb ⟨fencesB_sub hff,hen⟩
           have hz:Ar.std.zlt (costF c fe) (costF c S)=false:=by rw [std_zlt];exact decide_eq_false (by omega)
           rw [hz]
           exact last
end Go.Am
