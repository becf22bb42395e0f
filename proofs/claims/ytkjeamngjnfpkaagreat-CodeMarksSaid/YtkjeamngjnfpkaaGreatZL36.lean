/- Own text: ZL36. -/
import Derived.Test.YtkjeamngjnfpkaaGreatZL33
import Derived.Test.YtkjeamngjnfpkaaGreatGenp1
set_option maxRecDepth 100000
set_option maxHeartbeats 2000000
set_option linter.unusedVariables false
set_option linter.unusedSimpArgs false
set_option linter.unusedSectionVars false
namespace Go.Am
open Go
theorem Z104a_rfl:Z104a=Z104:=rfl
abbrev ETup:=List D×List D×List D×List D×Int×Int×Int×Int×List D×List D×List D
abbrev cEnd:Cod ETup:=cG (refN 10 (lc (cL 1) (lc (cL 1) (lc (cL 1) (lc (cL 8) (lc (cI .i64) (lc (cI .i64) (lc (cI .i64) (lc (cI .i64) (lc (cL 6) (lc (cL 1) (l1 (cL 1)))))))))))) (fun _=>lb rfl))
abbrev Ent:=Mc×List H8×List Int
def tupE (c:Code) (u:Tab) (mks:List Int) (e:Ent):ETup :=
 (eCode c,eTab u,eInts mks,eHs e.2.1,e.1.st,e.1.c0,e.1.c1,e.1.c2,eCalls e.1.h,eInts (e.1.ms.map (· - 1)),eInts e.2.2)
def eEnds (c:Code) (u:Tab) (mks:List Int) (L:List Ent):List D:=enc cEnd (L.map (tupE c u mks))
structure EntOk (c:Code) (u:Tab) (e:Ent):Prop where
 r:RHs u e.1 e.2.1
 i:MInv c u e.1
 t:TInv c u e.1
 k:MkI e.1
 st:e.1.st≤12
theorem Z103a_m {c:Code} {u:Tab} {m:Mc} (x1 x3:List D) (x5 x6 x7 x8:Int) (x9 x10:List D) {hs:List H8} (hr:RHs u m hs) (hi:MInv c u m) (hul:u.length≤2) {t:Int} (hb:btw 0 t (u.length-1)=true) :
  Z103a Ar.std x1 (eTab u) x3 (eHs hs) x5 x6 x7 x8 x9 x10 t=some (hasM u t m):=by
 have hb':=(btw_true _ _ _).1 hb
 obtain ⟨T,rfl⟩:=Int.eq_ofNat_of_zero_le hb'.1
 have hT:T<hs.length:=by rw [hr.1];omega
 have hg:hs[T]?=some hs[T]:=List.getElem?_eq_getElem hT
 have hul':u[T]?=some u[T]:=List.getElem?_eq_getElem (by rw [←hr.1];exact hT)
 obtain ⟨q1,q2,q3⟩:=hr.2 T _ hg
 generalize hs[T]=x at hg q1 q2 q3
 obtain ⟨x1,y2,y3,y4,y5,y6,y7,y8⟩:=x
 simp only [Prod.mk.injEq] at q1 q2 q3
 obtain ⟨q3,q4,q5,q6,q7,q8⟩:=q3
 have H:=hi.hd (t:=T) (by omega)
 unfold Z103a
 refine bt (v:=hasM u T m) (bt (gt_enc (c:=cH8) (i:=T) hg) ?_) rfl
 dsimp only
 have hh:hasM u (T:Int) m=decide ((m.hd T).cl<((u[T]).length:Int)):=by
  simp only [hasM,hb,Bool.true_and,Int.toNat_natCast,getD_get hul']
 rw [hh,q3]
 cases hin:(m.hd T).inn with
 | true =>
   obtain ⟨_,h2,_⟩:=H.busy hin
   rw [getD_get hul'] at h2
   rw [cond_true];exact congrArg some (decide_eq_true h2).symm
 | false =>
   rw [hin] at q1;simp only [cond_false,Int.add_zero] at q1
   rw [cond_false]
   refine bt (gt_eTab hul') ?_
   simp only [std_zlt,len_enc,q1]
theorem over_anyM (u:Tab) (m:Mc):overM u m = !(List.range u.length).any fun t=>hasM u (t:Int) m:=by
 unfold overM leftM
 rw [Bool.eq_iff_iff]
 simp only [List.isEmpty_iff,List.map_eq_nil_iff,List.filter_eq_nil_iff,List.mem_range',Bool.not_eq_true',List.any_eq_false,List.mem_range]
 constructor
 ·intro h t ht;exact h t ⟨t,ht,by omega⟩
 ·rintro h t ⟨i,hi,rfl⟩;exact h _ (by omega)
theorem Z65a_m {c:Code} {u:Tab} {m:Mc} (x1 x3:List D) (x5 x6 x7 x8:Int) (x9 x10:List D) {hs:List H8} (hr:RHs u m hs) (hi:MInv c u m) (h2:u.length≤2) :
  Z65a Ar.std x1 (eTab u) x3 (eHs hs) x5 x6 x7 x8 x9 x10=some (overM u m):=by
 have e:=iter_rng (step:=Z65aL0 Ar.std x1 (eTab u) x3 (eHs hs) x5 x6 x7 x8 x9 x10) u.length (fun t=>hasM u (t:Int) m) (.inr ()) (.inl ())
  (fun i hi'=>by
   unfold Z65aL0
   refine cnT (by simp;omega) (bt (Z103a_m x1 x3 x5 x6 x7 x8 x9 x10 hr hi h2 (t:=(i:Int)) ((btw_true _ _ _).2 (by omega))) ?_)
   cases hasM u (i:Int) m with
   | true=>rfl
   | false=>exact cnF rfl (by simp only [std_wrp,std_zadd,wrap1 hi' (by omega)];rfl))
  (by unfold Z65aL0;exact cnF (by simp) rfl)
 unfold Z65a
 refine bt e ?_
 rw [over_anyM]
 cases (List.range u.length).any fun t=>hasM u (t:Int) m <;> rfl
theorem apN (l:List D) (h:l.length<4294967296):ap Ar.std [] l=some l:=by simpa using ap_std (l:=[]) (m:=l) (by simpa using (by omega:(l.length:Int)<4294967296))
theorem endsR_len {c:Code} {u:Tab} {mks:List Int} (h2:u.length≤2) : ∀ (k:Nat) (m:Mc),(endsR c u mks k m).length≤2 ^ k
 | 0,m=>Nat.le_refl _
 | k+1,m=>by
   unfold endsR
   cases overM u m with
   | true=>rw [cond_true];exact Nat.one_le_two_pow
   | false =>
     rw [cond_false,List.length_flatMap]
     have hl:=leftM_len h2 m
     generalize leftM u m=l at hl
     have key : ∀ l:List Int,(l.map fun t=>(endsR c u mks k (stepM c u mks t.toNat m)).length).sum≤l.length*2 ^ k:=by
      intro l
      induction l with
      | nil=>simp
      | cons t r ih =>
        have:=endsR_len (c:=c) (mks:=mks) h2 k (stepM c u mks t.toNat m)
        rw [List.map_cons,List.sum_cons,List.length_cons,Nat.add_mul,Nat.one_mul]
        omega
     have h3:=key l
     have h4:=Nat.mul_le_mul_right (2 ^ k) hl
     rw [Nat.pow_succ]
     omega
def preE (c:Code) (u:Tab) (mks:List Int) (k:Nat) (m:Mc) (i:Nat):List Mc :=
 (List.range i).flatMap fun t:Nat=>bif hasM u (t:Int) m then endsR c u mks k (stepM c u mks t m) else []
theorem preE_succ (c:Code) (u:Tab) (mks:List Int) (k:Nat) (m:Mc) (i:Nat):preE c u mks k m (i+1)=preE c u mks k m i++(bif hasM u (i:Int) m then endsR c u mks k (stepM c u mks i m) else []):=by
 unfold preE
 rw [List.range_succ,List.flatMap_append];simp
theorem preE_len {c:Code} {u:Tab} {mks:List Int} (h2:u.length≤2) (k:Nat) (m:Mc) : ∀ i:Nat,(preE c u mks k m i).length≤i*2 ^ k
 | 0=>by simp [preE]
 | i+1=>by
   rw [preE_succ,List.length_append,Nat.add_mul,Nat.one_mul]
   have:=preE_len (c:=c) (mks:=mks) h2 k m i
   have h3:=endsR_len (c:=c) (mks:=mks) h2 k (stepM c u mks i m)
   cases hasM u (i:Int) m with
   | true=>rw [cond_true];omega
   | false=>rw [cond_false];simp;omega
theorem preE_all {c:Code} {u:Tab} {mks:List Int} (k:Nat) (m:Mc):preE c u mks k m u.length=(leftM u m).flatMap fun t=>endsR c u mks k (stepM c u mks t.toNat m):=by
 unfold preE leftM
 rw [List.flatMap_map,←List.range_eq_range']
 induction (List.range u.length) with
 | nil=>rfl
 | cons t r ih =>
   rw [List.flatMap_cons,ih,List.filter_cons]
   cases hasM u (t:Int) m with
   | true=>simp
   | false=>simp
abbrev CellE:=List D→List D→List D→List D→Int→Int→Int→Int→List D→List D→List D→Int→List D→Option (List D)
section
variable {c:Code} {u:Tab} {mks:List Int} (hmk:MkOk c mks) (hv:vCode c=true) (hu:vUse c u=true)
def SelfE (c:Code) (u:Tab) (mks:List Int) (k:Nat) (slf:CellE):Prop :=
 ∀ (m:Mc) (hs:List H8) (sch:List Int) (O:List Ent),EntOk c u (m,hs,sch)→m.st+k≤12→(sch.length:Int)≤m.st→O.length+2 ^ k≤100000 →
   ∃ L:List Ent,slf (eCode c) (eTab u) (eInts mks) (eHs hs) m.st m.c0 m.c1 m.c2 (eCalls m.h) (eInts (m.ms.map (· - 1))) (eInts sch) (k:Int) (eEnds c u mks O)=some (eEnds c u mks (O++L))∧L.map (·.1)=endsR c u mks k m ∧ ∀ e∈L,EntOk c u e
include hmk hv hu
theorem endsE_ok (k:Nat) (slf:CellE) (hself : ∀ k',k=k'+1→SelfE c u mks k' slf):SelfE c u mks k (Z102B Ar.std slf):=by
 intro m hs sch O he hst hsch hO
 have h2:=ulen mks hmk hv hu
 have hi:MInv c u m:=he.i
 have hT:TInv c u m:=he.t
 have hr:RHs u m hs:=he.r
 have hms:=hi.ms
 have hhs:=hi.st
 have hp0:0<2 ^ k:=Nat.two_pow_pos k
 have hst0:=hT.st0
 unfold Z102B
 have e1:(bif (Ar.std.zeq (k:Int) 0) then some true else (Z65a Ar.std (eCode c) (eTab u) (eInts mks) (eHs hs) m.st m.c0 m.c1 m.c2 (eCalls m.h) (eInts (m.ms.map (· - 1)))).bind fun r16=>some r16:Option Bool)=some (decide (k=0)||overM u m):=by
  by_cases hk:k=0
  ·rw [decide_eq_true hk];exact cnT (by simp [hk]) rfl
  ·rw [decide_eq_false hk,Bool.false_or]
   exact cnF (by simp;omega) (bt (Z65a_m _ _ _ _ _ _ _ _ hr hi h2) rfl)
 ·cases hb:(decide (k=0)||overM u m) with
  | true =>
    rw [hb] at e1
    refine ⟨[(m,hs,sch)],bt e1 ?_,?_,fun e he'=>by rw [List.mem_singleton] at he';subst he';exact he⟩
    ·refine cnT rfl (bt (ap_enc1 (c:=cEnd) (a:=tupE c u mks (m,hs,sch)) rfl (by rw [List.length_map];omega)) ?_)
     unfold eEnds
     rw [List.map_append];rfl
    ·cases k with
     | zero=>rfl
     | succ k =>
       rw [Bool.or_eq_true,decide_eq_true_eq] at hb
       have:overM u m=true:=hb.resolve_left (by omega)
       unfold endsR
       rw [this];rfl
  | false =>
    rw [hb] at e1
    rw [Bool.or_eq_false_iff,decide_eq_false_iff_not] at hb
    obtain ⟨k',rfl⟩ : ∃ k',k=k'+1:=⟨k-1,by omega⟩
    have hself:=hself k' rfl
    rw [Nat.pow_succ] at hO
    have hp1:0<2 ^ k':=Nat.two_pow_pos k'
    obtain ⟨L,⟨hL,hE⟩,e⟩:=iter_rel (step:=Z102L0 Ar.std (eCode c) (eTab u) (eInts mks) (eHs hs) m.st m.c0 m.c1 m.c2 (eCalls m.h) (eInts (m.ms.map (· - 1))) (eInts sch) ((k'+1:Nat):Int) slf) u.length
     (fun (L:List Ent) (i:Nat)=>(eEnds c u mks (O++L),(i:Int))) (fun i L=>L.map (·.1)=preE c u mks k' m i ∧ ∀ e∈L,EntOk c u e) (fun L=>eEnds c u mks (O++L))
     (fun i L hi' ⟨hL,hE⟩=>by
      have hb':btw 0 (i:Int) (u.length-1)=true:=(btw_true _ _ _).2 (by omega)
      have hm:=Z103a_m (eCode c) (eInts mks) m.st m.c0 m.c1 m.c2 (eCalls m.h) (eInts (m.ms.map (· - 1))) hr hi h2 hb'
      cases ht:hasM u (i:Int) m with
      | false =>
        refine ⟨L,⟨by rw [hL,preE_succ,ht,cond_false,List.append_nil],hE⟩,?_⟩
        unfold Z102L0
        refine cnT (by simp;omega) (bt hm ?_)
        rw [ht]
        refine bt (cnF rfl rfl) ?_
        simp only [std_wrp,std_zadd,wrap1 hi' (by omega)]
      | true =>
        obtain ⟨hs',e104,hr'⟩:=Z104_m mks hmk hv hu hi (by omega) hr ht
        have hnx:=minv_next mks hmk hv hu hi ht
        have hLl:L.length≤i*2 ^ k':=by
         have h3:=preE_len (c:=c) (mks:=mks) h2 k' m i
         rw [←hL,List.length_map] at h3;exact h3
        have hi1:i*2 ^ k'≤1*2 ^ k':=Nat.mul_le_mul_right _ (by omega)
        obtain ⟨L',e',hL',hE'⟩:=hself (stepM c u mks i m) hs' (sch++[(i:Int)]) (O++L) ⟨hr',hnx,tinv_next hmk hv hu hi hT ht,mki_step mks he.k hst0,by show m.st+1≤12;omega⟩ (by show m.st+1+(k':Int)≤12;omega) (by rw [List.length_append];show ((sch.length+1:Nat):Int)≤m.st+1;omega) (by rw [List.length_append];omega)
        refine ⟨L++L',⟨by rw [List.map_append,hL,hL',preE_succ,ht,cond_true],fun e he'=>(List.mem_append.1 he').elim (hE e) (hE' e)⟩,?_⟩
        unfold Z102L0
        refine cnT (by simp;omega) (bt hm ?_)
        rw [ht]
        have hk1:Ar.std.wrp .i64 (Ar.std.zsub ((k'+1:Nat):Int) 1)=(k':Int):=by
         simp only [std_wrp,std_zsub]
         rw [i64w _ (by omega) (by omega)];omega
        refine bt (cnT rfl (bt (v:=(eCode c,eTab u,eInts mks,m.st,m.c0,m.c1,m.c2,eHs hs,eCalls m.h,eInts (m.ms.map (· - 1)))) ?_ (bt (by rw [Z104a_rfl];exact e104) (bt (apN _ (by simp;omega)) (bt (ap_enc1 (c:=cI .i64) rfl (by omega)) (by rw [hk1];exact bt e' rfl)))))) ?_
        ·unfold Z148
         have hsl:hs.length=u.length:=hr.1
         exact bt (apN _ (by simp;omega)) (bt (apN _ (by simp;omega)) (bt (apN _ (by simp;omega)) rfl))
        ·simp only [std_wrp,std_zadd,wrap1 hi' (by omega),List.append_assoc])
     (fun L _=>by unfold Z102L0;exact cnF (by simp) rfl) [] ⟨rfl,fun e he=>by cases he⟩
    refine ⟨L,bt e1 ?_,?_,hE⟩
    ·refine cnF rfl ?_
     rw [List.append_nil] at e
     exact bt e rfl
    ·rw [hL,preE_all]
     show _=(bif overM u m then [m] else (leftM u m).flatMap fun t=>endsR c u mks k' (stepM c u mks t.toNat m))
     rw [hb.2,cond_false]
theorem Z102R_ok : ∀ (k j:Nat),k<j→SelfE c u mks k (Z102R Ar.std j)
 | k,0,h=>by omega
 | k,j+1,h=>endsE_ok hmk hv hu k (Z102R Ar.std j) fun k' hk'=>Z102R_ok k' j (by omega)
theorem Z62_ok (k:Nat) (hk:k≤12) : ∃ L:List Ent,Z62 Ar.std (eCode c) (eTab u) (eInts mks) (k:Int)=some (eEnds c u mks L)∧L.map (·.1)=endsR c u mks k mc0 ∧ ∀ e∈L,EntOk c u e:=by
 have h2:=ulen mks hmk hv hu
 have hp:2 ^ k≤2 ^ 12:=Nat.pow_le_pow_right (by omega) hk
 obtain ⟨L,e,hL,hE⟩:=Z102R_ok hmk hv hu k fuel (by unfold fuel;omega) mc0 (List.replicate u.length (0,0,false,0,0,0,0,0)) [] [] ⟨rhs0 _ u rfl,minv0 c u,tinv0 c u,mki0,by show (0:Int)≤12;decide⟩ (by show (0:Int)+k≤12;omega) (by decide) (by simp;omega)
 refine ⟨L,?_,hL,hE⟩
 have e101:Z101 Ar.std (eCode c) (eTab u) (eInts mks)=some (eCode c,eTab u,eInts mks,eHs (List.replicate u.length (0,0,false,0,0,0,0,0))):=by
  unfold Z101
  refine bt (ck_of (by simp)) (bt (ck_of (by simp)) (bt (ck_of (by simp;omega)) ?_))
  rw [len_eTab]
  have:=enc_rep (c:=cH8) (u.length:Int) (0,0,false,0,0,0,0,0)
  rw [Int.toNat_natCast] at this
  exact congrArg (fun x=>some (eCode c,eTab u,eInts mks,x)) this
 unfold Z62
 refine bt e101 (bt ?_ rfl)
 rw [List.nil_append] at e
 exact e
end
end Go.Am

set_option maxRecDepth 100000
set_option maxHeartbeats 2000000
set_option linter.unusedVariables false
set_option linter.unusedSimpArgs false
set_option linter.unusedSectionVars false
namespace Go.Am
open Go
section
variable {m:Mc} (hI:MkI m) (hl:m.ms.length=m.h.length) (hs:m.st≤100) (hs0:0≤m.st) (hh:m.h.length≤100)
include hI hl hs hs0 hh
theorem Z66aL0_it (k:Int) (out:List Int) (ho:out.length≤100000):iter (Z66aL0 Ar.std (eCalls m.h) (eInts (m.ms.map (· - 1))) k) (eInts out,0)=some (eInts (out++cN' (pickM m k))):=by
 obtain ⟨s,⟨hs',_⟩,e⟩:=iter_rel (step:=Z66aL0 Ar.std (eCalls m.h) (eInts (m.ms.map (· - 1))) k) m.h.length (fun (s:List Int) (i:Nat)=>(eInts s,(i:Int)))
  (fun i s=>s=out++cN' ((List.range i).filter fun i=>decide (m.ms[i]?=some (k+1)))∧s.length≤out.length+i) (fun s=>eInts s)
  (fun i s hi ⟨hR,hb⟩=>by
   subst hR
   have hx:(m.ms.map (· - 1))[i]?=some (keyM m i-1):=by rw [List.getElem?_map,keyM_get (by omega)];rfl
   have hg:gt Ar.std (cI .i64) (eInts (m.ms.map (· - 1))) (i:Int)=some (keyM m i-1):=gt_enc hx
   have hq:decide (keyM m i-1=k)=decide (m.ms[i]?=some (k+1)):=by
    rw [keyM_get (by omega)]
    refine decide_eq_decide.2 ⟨fun h=>by rw [←h];congr 1;omega,fun h=>by have:=Option.some.inj h;omega⟩
   refine ⟨out++cN' ((List.range (i+1)).filter fun i=>decide (m.ms[i]?=some (k+1))),⟨rfl,?_⟩,?_⟩
   ·rw [List.range_succ,List.filter_append]
    unfold cN'
    have:(List.filter (fun i=>decide (m.ms[i]?=some (k+1))) [i]).length≤1:=List.length_filter_le _ _
    unfold cN' at hb
    rw [List.map_append,←List.append_assoc,List.length_append,List.length_map]
    omega
   ·unfold Z66aL0
    refine cnT (by simp;omega) (bt hg (bt (v:=eInts (out++cN' ((List.range (i+1)).filter fun i=>decide (m.ms[i]?=some (k+1))))) ?_ ?_))
    ·rw [List.range_succ,List.filter_append]
     cases hd:decide (m.ms[i]?=some (k+1)) with
     | true =>
       refine cnT (by rw [std_zeq,hq,hd]) (bt (ap_enc1 (c:=cI .i64) rfl (by omega)) ?_)
       have:List.filter (fun i=>decide (m.ms[i]?=some (k+1))) [i]=[i]:=by simp only [List.filter_cons,hd,if_true,List.filter_nil]
       rw [this]
       unfold cN'
       rw [List.map_append,←List.append_assoc];rfl
     | false =>
       refine cnF (by rw [std_zeq,hq,hd]) ?_
       have:List.filter (fun i=>decide (m.ms[i]?=some (k+1))) [i]=[]:=by rw [List.filter_cons,hd];rfl
       rw [this,List.append_nil]
    ·simp only [std_wrp,std_zadd,wrap1 (i:=i) (n:=200) (by omega) (by decide)])
  (fun s _=>by unfold Z66aL0;exact cnF (by simp) rfl) out ⟨by simp [cN'],by omega⟩
 subst hs'
 exact e
theorem Z66aL1_it:iter (Z66aL1 Ar.std m.st (eCalls m.h) (eInts (m.ms.map (· - 1)))) ([],0)=some (eInts (cN' (ordN m))):=by
 obtain ⟨N,hN⟩:=Int.eq_ofNat_of_zero_le hs0
 obtain ⟨s,⟨hs',_⟩,e⟩:=iter_rel (step:=Z66aL1 Ar.std m.st (eCalls m.h) (eInts (m.ms.map (· - 1)))) N (fun (s:List Int) (i:Nat)=>(eInts s,(i:Int)))
  (fun i s=>s=cN' ((List.range i).flatMap fun k:Nat=>pickM m (k:Int))∧s.length≤100*i) (fun s=>eInts s)
  (fun i s hi ⟨hR,hb⟩=>by
   refine ⟨s++cN' (pickM m (i:Int)),⟨?_,?_⟩,?_⟩
   ·rw [hR,List.range_succ,List.flatMap_append]
    unfold cN'
    rw [List.map_append];simp
   ·have:(pickM m (i:Int)).length≤m.h.length:=by
     unfold pickM
     refine Nat.le_trans (List.length_filter_le _ _) ?_
     rw [List.length_range];exact Nat.le_refl _
    unfold cN'
    rw [List.length_append,List.length_map];omega
   ·unfold Z66aL1
    refine cnT (by rw [hN];simp;omega) (bt (Z66aL0_it hI hl hs hs0 hh (i:Int) s (by omega)) ?_)
    simp only [std_wrp,std_zadd,wrap1 (i:=i) (n:=200) (by omega) (by decide)])
  (fun s _=>by unfold Z66aL1;exact cnF (by rw [hN];simp) rfl) [] ⟨rfl,by simp⟩
 rw [hs'] at e
 unfold ordN
 rw [hN] at e ⊢
 rw [Int.toNat_natCast]
 exact e
theorem Z66a_eq {c:Code} {u:Tab} (x1 x3:List D) {hs':List H8} (hr:RHs u m hs') (hi:MInv c u m) (h2:u.length≤2) :
  Z66a Ar.std x1 (eTab u) x3 (eHs hs') m.st m.c0 m.c1 m.c2 (eCalls m.h) (eInts (m.ms.map (· - 1)))=some (bif overM u m then (eInts (cN' (ordN m)),!zeroM m) else ([],false)):=by
 unfold Z66a
 refine bt (Z65a_m _ _ _ _ _ _ _ _ hr hi h2) ?_
 cases overM u m with
 | false=>rfl
 | true =>
   refine cnT rfl (bt (Z66aL1_it hI hl hs hs0 hh) ?_)
   have:=ordN_len hI hl
   have hlen:(cN' (ordN m)).length=(ordN m).length:=by unfold cN';rw [List.length_map]
   rw [len_enc,len_enc,std_zeq,hlen,cond_true,←this]
   congr 2
   exact decide_eq_decide.2 (by omega)
end
def chkF (s:Spec) (h:List Call):Int→List Nat→Bool
 | _,[]=>true
 | now,i::r=>decide (nx s.2.2.2 now (opAt h i)=saAt h i)&&chkF s h (nx s.2.2.1 now (opAt h i)) r
theorem alw_chk (s:Spec) (h:List Call) : ∀ (l:List Nat) (now:Int),decide ((goF s (l.map (opAt h)) (now,[])).2=l.map (saAt h))=chkF s h now l
 | [],now=>rfl
 | i::r,now=>by
   show decide ((goF s (r.map (opAt h)) (nx s.2.2.1 now (opAt h i),[]++[nx s.2.2.2 now (opAt h i)])).2=saAt h i::r.map (saAt h))=_
   rw [goF_snd]
   show decide (nx s.2.2.2 now (opAt h i)::(goF s (r.map (opAt h)) (nx s.2.2.1 now (opAt h i),[])).2=saAt h i::r.map (saAt h))=(decide (nx s.2.2.2 now (opAt h i)=saAt h i)&&chkF s h (nx s.2.2.1 now (opAt h i)) r)
   rw [←alw_chk s h r]
   by_cases h1:nx s.2.2.2 now (opAt h i)=saAt h i
   ·rw [decide_eq_true h1,Bool.true_and,h1]
    exact decide_eq_decide.2 ⟨fun h=>(List.cons.inj h).2,fun h=>by rw [h]⟩
   ·rw [decide_eq_false h1,Bool.false_and]
    exact decide_eq_false fun h=>h1 (List.cons.inj h).1
theorem Z22L0_it {s:Spec} (hk:specOk s=true) (h:List Call) (l:List Nat) (hl:l.length≤20) (hlt : ∀ i∈l,i<h.length) (hop : ∀ x∈h,0≤x.op∧x.op<s.2.1) :
  iter (Z22L0 Ar.std (eTab s.2.2.1) (eTab s.2.2.2) (eCalls h) (eInts (cN' l))) (0,0)=some (bif alwB s h l then .inl () else .inr ()):=by
 have hb:=((specOk_iff s).1 hk).1
 obtain ⟨_,_,ht1,ht2⟩:=(specOk_iff s).1 hk
 have hln:(cN' l).length=l.length:=by unfold cN';rw [List.length_map]
 have key : ∀ (k i:Nat) (now:Int),i+k=l.length→0≤now→now<s.1→iter (Z22L0 Ar.std (eTab s.2.2.1) (eTab s.2.2.2) (eCalls h) (eInts (cN' l))) (now,(i:Int))=some (bif chkF s h now (l.drop i) then .inl () else .inr ()):=by
  intro k
  induction k with
  | zero =>
    intro i now hik h0 h1
    rw [List.drop_eq_nil_of_le (by omega)]
    refine iter_inr ?_
    unfold Z22L0
    exact cnF (by rw [len_enc,hln];simp;omega) rfl
  | succ k ih =>
    intro i now hik h0 h1
    have hi:i<l.length:=by omega
    have hx:=List.getElem?_eq_getElem hi
    have hj:=hlt _ (List.getElem_mem hi)
    rw [List.drop_eq_getElem_cons hi]
    generalize l[i]=j at hx hj
    have hx':(cN' l)[i]?=some (j:Int):=by unfold cN';rw [List.getElem?_map,hx];rfl
    have hc:=List.getElem?_eq_getElem hj
    have e1:opAt h j=h[j].op:=by unfold opAt;rw [getD_get hc]
    have e2:saAt h j=h[j].sa:=by unfold saAt;rw [getD_get hc]
    have ho:=hop _ (List.getElem_mem hj)
    obtain ⟨r1,a1,a2,a3,a4⟩:=tab_get ht1 h0 h1 ho.1 ho.2
    obtain ⟨r2,b1,b2,_,_⟩:=tab_get ht2 h0 h1 ho.1 ho.2
    have hstep:Z22L0 Ar.std (eTab s.2.2.1) (eTab s.2.2.2) (eCalls h) (eInts (cN' l)) (now,(i:Int))=some (bif decide (nx s.2.2.2 now (opAt h j)=saAt h j) then (Sum.inl (nx s.2.2.1 now (opAt h j),((i+1:Nat):Int)):(Int×Int)⊕(Unit⊕Unit)) else .inr (.inr ())):=by
     rw [e1,e2]
     unfold Z22L0
     refine cnT (by rw [len_enc,hln];simp;omega) (bt (gt_enc hx') (bt (gt_enc hc) (bt (gt_eTabI h0 b1) (bt (gt_encI ho.1 b2) ?_))))
     cases hd:decide (nx s.2.2.2 now h[j].op=h[j].sa) with
     | true =>
       refine cnT hd (bt (gt_eTabI h0 a1) (bt (gt_encI ho.1 a2) ?_))
       simp only [std_wrp,std_zadd,wrap1 (i:=i) (n:=200) (by omega) (by decide)]
       rfl
     | false=>exact cnF hd rfl
    show _=some (bif (decide (nx s.2.2.2 now (opAt h j)=saAt h j)&&chkF s h (nx s.2.2.1 now (opAt h j)) (l.drop (i+1))) then (Sum.inl ():Unit⊕Unit) else .inr ())
    cases hd:decide (nx s.2.2.2 now (opAt h j)=saAt h j) with
    | true =>
      rw [hd] at hstep
      rw [Bool.true_and,iter_inl hstep]
      exact ih (i+1) _ (by omega) (by rw [e1];exact a3) (by rw [e1];omega)
    | false =>
      rw [hd] at hstep
      rw [Bool.false_and]
      exact iter_inr hstep
 have:=key l.length 0 0 (by omega) (Int.le_refl _) (by omega)
 rw [List.drop_zero,←alw_chk] at this
 exact this
end Go.Am

set_option maxRecDepth 100000
set_option maxHeartbeats 2000000
set_option linter.unusedVariables false
set_option linter.unusedSimpArgs false
set_option linter.unusedSectionVars false
namespace Go.Am
open Go
theorem find_uu {α:Type} (l:List α) (p:α→Bool):((l.findIdx? p).elim (.inl ()) (fun _ => .inr ()):Unit⊕Unit)=bif l.any p then .inr () else .inl ():=by
 have h:=find_any l p
 cases hq:l.findIdx? p with
 | none =>
   rw [hq] at h
   have:l.any p=false:=by
    cases ha:l.any p with
    | false=>rfl
    | true=>have:=h.2 ha;simp at this
   rw [this];rfl
 | some i =>
   rw [hq] at h
   have:l.any p=true:=h.1 (by simp)
   rw [this];rfl
theorem any_not_all {α:Type} (l:List α) (p:α→Bool):(l.any fun a => !p a) = !l.all p:=any_notB l p
theorem specE_all {s:Spec} {c:Code} {u:Tab} (h:specE s c u=0):vCode c=true∧specOk s=true∧s.2.1=(c.length:Int)∧vUse c u=true:=by
 unfold specE at h
 cases hv:vCode c with
 | false=>rw [hv] at h;simp at h
 | true =>
   rw [hv] at h
   cases hs:specOk s&&decide (s.2.1=(c.length:Int)) with
   | false=>rw [hs] at h;simp at h
   | true =>
     rw [hs] at h
     rw [Bool.and_eq_true,decide_eq_true_eq] at hs
     cases hu:vUse c u with
     | false=>rw [hu] at h;simp at h
     | true=>exact ⟨rfl,hs.1,hs.2,rfl⟩
def mkdR (s:Spec) (c:Code) (u:Tab) (mks:List Int):Bool×Int :=
 bif decide (specE s c u=0) then (bif isMk c mks then ((endsR c u mks 12 mc0).all (visB s u),0) else (false,2)) else (false,specE s c u)
section
variable {s:Spec} (hs:TabOk s.2.2.1∧TabOk s.2.2.2) {c:Code} (hc:CodeOk c) {u:Tab} (hut:TabOk u) {mks:List Int} (hlm:mks.length<Lg)
include hs hc hut hlm
theorem Z16_eq:Z16 Ar.std s.1 s.2.1 (eTab s.2.2.1) (eTab s.2.2.2) (eCode c) (eTab u) (eInts mks)=some (mkdR s c u mks):=by
 unfold mkdR
 by_cases he:specE s c u=0
 ·obtain ⟨hv,hk,ho,hu⟩:=specE_all he
  rw [decide_eq_true he,cond_true]
  cases hm:isMk c mks with
  | true=>exact Z16_ok hs hk hc hut hv hu ho hlm hm
  | false =>
    unfold Z16
    refine bt (Z33_eq s hs c hc u hut) (cnT (by simp [he]) (bt (Z53_eq hc hlm) ?_))
    rw [hm];rfl
 ·rw [decide_eq_false he,cond_false]
  unfold Z16
  exact bt (Z33_eq s hs c hc u hut) (cnF (by simp [he]) rfl)
theorem Z22L1_it (hk:specOk s=true) (hv:vCode c=true) (hu:vUse c u=true) (ho:s.2.1=(c.length:Int)) (hmk:MkOk c mks) (L:List Ent) (hL:L.length≤100000) (hE : ∀ e∈L,EntOk c u e) :
  iter (Z22L1 Ar.std (eTab s.2.2.1) (eTab s.2.2.2) (eEnds c u mks L)) 0=some (bif (L.map (·.1)).all (visB s u) then .inl () else .inr ()):=by
 have h2:=ulen mks hmk hv hu
 have e:=iter_find (step:=Z22L1 Ar.std (eTab s.2.2.1) (eTab s.2.2.2) (eEnds c u mks L)) L (fun e => !visB s u e.1) (fun _ => .inr ()) (.inl ()) (fun i e hn hi=>by
  have hx:=hE e (List.mem_of_getElem? hn)
  have hms:=hx.i.ms
  have hhs:=hx.i.st
  have hst:=hx.st
  have hop : ∀ x∈e.1.h,0≤x.op∧x.op<s.2.1:=fun x hx'=>by
   obtain ⟨_,_,h3,_⟩:=hx.t.one x hx'
   rw [ho];exact h3
  have hlen:(eEnds c u mks L).length=L.length:=by unfold eEnds enc;rw [List.length_map,List.length_map]
  have hK:(some (.inl (Ar.std.wrp .i64 (Ar.std.zadd (i:Int) 1))):Option (Int⊕(Unit⊕Unit)))=some (.inl ((i+1:Nat):Int)):=by
   simp only [std_wrp,std_zadd,wrap1 (i:=i) (n:=200000) (by omega) (by decide)]
  unfold Z22L1
  refine cnT (by show decide _=true;rw [decide_eq_true_eq];show (i:Int)<((eEnds c u mks L).length:Int);omega) ?_
  unfold jn
  refine bt (gt_enc_map (c:=cEnd) hn) ?_
  dsimp only [tupE]
  refine bt (Z65a_m _ _ _ _ _ _ _ _ hx.r hx.i h2) ?_
  unfold visB
  cases hov:overM u e.1 with
  | false=>exact cnF rfl hK
  | true =>
    refine cnT rfl (bt (Z66a_eq hx.k hms (by omega) hx.t.st0 (by omega) _ _ hx.r hx.i h2) ?_)
    rw [hov]
    unfold ordOk
    rw [hov]
    cases hz:zeroM e.1 with
    | true=>rfl
    | false =>
      have hp:=(ordN_perm hx.k hms hz).length_eq
      rw [List.length_range] at hp
      refine cnT rfl (bt (Z22L0_it hk e.1.h (ordN e.1) (by omega) (fun j hj=>((mem_ordN hx.k hms).1 hj).1) hop) ?_)
      cases ha:alwB s e.1.h (ordN e.1) with
      | true=>rw [cond_true];simp only [Sum.elim_inl];rw [hK];rfl
      | false=>rw [cond_false];simp only [Sum.elim_inr];rfl) (by
  unfold Z22L1
  have hlen:(eEnds c u mks L).length=L.length:=by unfold eEnds enc;rw [List.length_map,List.length_map]
  exact cnF (by show decide _=false;rw [decide_eq_false_iff_not];show ¬ (L.length:Int)<((eEnds c u mks L).length:Int);omega) rfl)
 rw [e,find_uu,any_not_all,List.all_map]
 show some (bif !(L.all fun e=>visB s u e.1) then _ else _)=some (bif (L.all fun e=>visB s u e.1) then _ else _)
 cases (L.all fun e=>visB s u e.1) with
 | true=>rfl
 | false=>rfl
theorem Z22_eq:Z22 Ar.std s.1 s.2.1 (eTab s.2.2.1) (eTab s.2.2.2) (eCode c) (eTab u) (eInts mks)=some (mkdR s c u mks):=by
 unfold mkdR Z22
 refine bt (Z60_eq hs c hc u hut) ?_
 by_cases he:specE s c u=0
 ·obtain ⟨hv,hk,ho,hu⟩:=specE_all he
  rw [decide_eq_true he,cond_true,he]
  refine bt (v := !isMk c mks) (cnT rfl (bt (Z64_eq hc hlm) rfl)) ?_
  cases hm:isMk c mks with
  | false=>exact bt (v:=2) (cnT rfl rfl) (cnF rfl rfl)
  | true =>
    have hmk:MkOk c mks:=by
     have:=hm
     unfold isMk at this
     rw [Bool.and_eq_true,decide_eq_true_eq] at this
     exact .inr this.1
    refine bt (v:=0) (cnF rfl rfl) (cnT rfl ?_)
    obtain ⟨L,e62,hL,hE⟩:=Z62_ok hmk hv hu 12 (Nat.le_refl _)
    have hlen:L.length≤100000:=by
     have:=endsR_len (c:=c) (u:=u) (mks:=mks) (ulen mks hmk hv hu) 12 mc0
     rw [←hL,List.length_map] at this
     exact Nat.le_trans this (by decide)
    refine bt e62 (bt (Z22L1_it hs hc hut hlm hk hv hu ho hmk L hlen hE) ?_)
    rw [hL]
    cases (endsR c u mks 12 mc0).all (visB s u) with
    | true=>rfl
    | false=>rfl
 ·rw [decide_eq_false he,cond_false]
  refine bt (v:=false) (cnF (by simp [he]) rfl) (bt (v:=specE s c u) (cnF rfl rfl) (cnF (by simp [he]) rfl))
end
theorem Z58_eq {u:Tab} {m:Mc} (h2:u.length≤2) (x1 x23:List D) :
  Z58 Ar.std x1 (eTab u) m.a.cl m.a.ln m.a.r0 m.a.r1 m.a.r2 m.a.r3 m.a.at_ m.b.cl m.b.ln m.b.r0 m.b.r1 m.b.r2 m.b.r3 m.b.at_ m.c0 m.c1 m.c2 m.st (eCalls m.h) (eInts m.ms) x23=some (overM u m):=by
 unfold Z58
 refine bt (Z55_eq x1 m h2) ?_
 unfold overM
 cases leftM u m with
 | nil=>rfl
 | cons t r=>simp <;> omega
abbrev CellW:=List D→List D→Int→Int→Int→Int→Int→Int→Int→Int→Int→Int→Int→Int→Int→Int→Int→Int→Int→Int→List D→List D→Int→List D→List D→Option Bool
section
variable {c:Code} {u:Tab} {mks:List Int} (hmk:MkOk c mks) (hv:vCode c=true) (hu:vUse c u=true)
def SelfW (c:Code) (u:Tab) (mks:List Int) (k:Nat) (slf:CellW):Prop :=
 ∀ (m:Mc) (sch:List Int),MInv c u m→m.st+k=12→(sch.length:Int)≤m.st →
   slf (eCode c) (eTab u) m.a.cl m.a.ln m.a.r0 m.a.r1 m.a.r2 m.a.r3 m.a.at_ m.b.cl m.b.ln m.b.r0 m.b.r1 m.b.r2 m.b.r3 m.b.at_ m.c0 m.c1 m.c2 m.st (eCalls m.h) (eInts m.ms) 12 (eInts mks) (eInts sch)=some ((endsR c u mks k m).all (overM u))
include hmk hv hu
theorem visW_ok (k:Nat) (slf:CellW) (hself : ∀ k',k=k'+1→SelfW c u mks k' slf):SelfW c u mks k (Z36cB Ar.std slf):=by
 intro m sch hi hst hsch
 have h2:=ulen mks hmk hv hu
 have hhs:=hi.st
 have hms:=hi.ms
 unfold Z36cB
 refine bt (Z55a_eq (eCode c) m h2) ?_
 refine bt (v:=overM u m||decide (m.st=12)) ?_ ?_
 ·unfold overM
  cases hl:leftM u m with
  | nil=>rfl
  | cons t r=>exact cnF (by simp <;> omega) rfl
 ·cases hb:(overM u m||decide (m.st=12)) with
  | true =>
    have he:endsR c u mks k m=[m]:=by
     cases k with
     | zero=>rfl
     | succ k =>
       unfold endsR
       have:overM u m=true:=by
        rw [Bool.or_eq_true,decide_eq_true_eq] at hb
        rcases hb with h | h
        ·exact h
        ·omega
       rw [this,cond_true]
    rw [he]
    refine cnT rfl (bt (Z58_eq h2 _ _) ?_)
    simp
  | false =>
    rw [Bool.or_eq_false_iff,decide_eq_false_iff_not] at hb
    obtain ⟨k',rfl⟩ : ∃ k',k=k'+1:=⟨k-1,by have:=hb.2;omega⟩
    have hself:=hself k' rfl
    have hll:=leftM_len h2 m
    refine cnF rfl ?_
    have he:endsR c u mks (k'+1) m=(leftM u m).flatMap fun t=>endsR c u mks k' (stepM c u mks t.toNat m):=by
     show (bif overM u m then [m] else _)=_
     rw [hb.1,cond_false]
    rw [he,List.all_flatMap]
    refine bt (iter_list0 (leftM u m) (fun (_:Unit) (i:Nat)=>(i:Int)) (fun _ t=>bif (endsR c u mks k' (stepM c u mks t.toNat m)).all (overM u) then .inl () else .inr (.inr (eCode c,eTab u,(stepM c u mks t.toNat m).a.cl,(stepM c u mks t.toNat m).a.ln,(stepM c u mks t.toNat m).a.r0,(stepM c u mks t.toNat m).a.r1,(stepM c u mks t.toNat m).a.r2,(stepM c u mks t.toNat m).a.r3,(stepM c u mks t.toNat m).a.at_,(stepM c u mks t.toNat m).b.cl,(stepM c u mks t.toNat m).b.ln,(stepM c u mks t.toNat m).b.r0,(stepM c u mks t.toNat m).b.r1,(stepM c u mks t.toNat m).b.r2,(stepM c u mks t.toNat m).b.r3,(stepM c u mks t.toNat m).b.at_,(stepM c u mks t.toNat m).c0,(stepM c u mks t.toNat m).c1,(stepM c u mks t.toNat m).c2,(stepM c u mks t.toNat m).st,eCalls (stepM c u mks t.toNat m).h,eInts (stepM c u mks t.toNat m).ms))) (fun _ => .inl ()) (fun i t _ hn hlt => ?_) (fun _ => ?_) ()) ?_
    ·have ht:=leftM_has (List.mem_of_getElem? hn)
     have hn1:=minv_next mks hmk hv hu hi ht
     have hsl:sl Ar.std (eInts sch) 0 (Ar.std.len (eInts sch))=some (eInts sch):=by
      rw [len_enc,sl_encT (Nat.le_refl _),List.take_length]
     unfold Z36cL0
     refine cnT (by simp;omega) (bt (gt_enc hn) (bt (v:=(eCode c,eTab u,m.a.cl,m.a.ln,m.a.r0,m.a.r1,m.a.r2,m.a.r3,m.a.at_,m.b.cl,m.b.ln,m.b.r0,m.b.r1,m.b.r2,m.b.r3,m.b.at_,m.c0,m.c1,m.c2,m.st,eCalls m.h,eInts m.ms)) ?_ (bt (Z84_m mks hmk hv hu hi (by omega) ht) (bt hsl (bt (v:=()) (by simp [ck]) (bt (ap_enc1 (c:=cI .i64) rfl (by omega)) (bt (hself (stepM c u mks t.toNat m) (sch++[t]) hn1 (by show m.st+1+(k':Int)=12;omega) (by rw [List.length_append];show ((sch.length+1:Nat):Int)≤m.st+1;omega)) ?_)))))))
     ·unfold Z83
      exact bt (Z117_eq _ (by simp;omega)) (bt (v:=()) (by rw [scalCalls];rfl) (bt (Z39_eq (c:=[]) ⟨by decide,fun r h=>by cases h⟩ (u:=[]) ⟨by decide,fun r h=>by cases h⟩ (sch:=[]) (by decide) _ (by simp;omega)) (bt (v:=()) (by rw [scalInts];rfl) rfl)))
     ·cases (endsR c u mks k' (stepM c u mks t.toNat m)).all (overM u) with
      | true =>
        refine cnT rfl ?_
        simp only [std_wrp,std_zadd,wrap1 hlt (by omega)];rfl
      | false=>exact cnF rfl rfl
    ·unfold Z36cL0;exact cnF (by simp) rfl
    ·refine foldE_all (fun t:Int=>(endsR c u mks k' (stepM c u mks t.toNat m)).all (overM u)) _ _ ?_ _
     intro a;rfl
theorem Z36cR_ok : ∀ (k j:Nat),k<j→SelfW c u mks k (Z36cR Ar.std j)
 | k,0,h=>by omega
 | k,j+1,h=>visW_ok hmk hv hu k (Z36cR Ar.std j) fun k' hk'=>Z36cR_ok k' j (by omega)
theorem Z36b_ok:Z36b Ar.std (eCode c) (eTab u) 0 0 0 0 0 0 0 0 0 0 0 0 0 0 0 0 0 0 12 (eInts mks) [] [] []=some ((endsR c u mks 12 mc0).all (overM u)) :=
 visW_ok hmk hv hu 12 (Z36c Ar.std) (fun k' hk'=>Z36cR_ok hmk hv hu k' fuel (by unfold fuel;omega)) mc0 [] (minv0 c u) (by simp [mc0]) (by simp [mc0])
end
def endR (c:Code) (u:Tab):Bool×Int:=bif decide (codeE c u=0) then ((endsR c u [] 12 mc0).all (overM u),0) else (false,codeE c u)
section
variable {c:Code} (hc:CodeOk c) {u:Tab} (hut:TabOk u)
include hc hut
theorem Z17_eq:Z17 Ar.std (eCode c) (eTab u)=some (endR c u):=by
 unfold Z17 endR
 refine bt (Z40_eq c hc u hut) ?_
 by_cases he:codeE c u=0
 ·obtain ⟨hv,hu⟩:=codeE_ok he
  rw [decide_eq_true he,cond_true]
  refine cnT (by simp [he]) (bt (v:=(eCode c,eTab u)) rfl (bt (Z36b_ok (mks:=[]) (.inl rfl) hv hu) rfl))
 ·rw [decide_eq_false he,cond_false]
  exact cnF (by simp [he]) rfl
theorem Z23_eq:Z23 Ar.std (eCode c) (eTab u)=some (endR c u):=by
 unfold Z23 endR
 refine bt (Z67_eq c hc u hut) ?_
 by_cases he:codeE c u=0
 ·obtain ⟨hv,hu⟩:=codeE_ok he
  rw [decide_eq_true he,cond_true]
  have h2:=ulen [] (.inl rfl) hv hu
  obtain ⟨L,e62,hL,hE⟩:=Z62_ok (mks:=[]) (.inl rfl) hv hu 12 (Nat.le_refl _)
  have hlen:L.length≤100000:=by
   have:=endsR_len (c:=c) (u:=u) (mks:=[]) h2 12 mc0
   rw [←hL,List.length_map] at this
   exact Nat.le_trans this (by decide)
  have hle:(eEnds c u [] L).length=L.length:=by unfold eEnds enc;rw [List.length_map,List.length_map]
  have e:=iter_find (step:=Z23L0 Ar.std (eEnds c u [] L)) L (fun e => !overM u e.1) (fun _ => .inr ()) (.inl ()) (fun i e hn hi=>by
   have hx:=hE e (List.mem_of_getElem? hn)
   unfold Z23L0
   refine cnT (by show decide _=true;rw [decide_eq_true_eq];show (i:Int)<((eEnds c u [] L).length:Int);omega) (bt (gt_enc_map (c:=cEnd) hn) ?_)
   dsimp only [tupE]
   refine bt (Z65a_m _ _ _ _ _ _ _ _ hx.r hx.i h2) ?_
   cases overM u e.1 with
   | true =>
     refine cnT rfl ?_
     simp only [std_wrp,std_zadd,wrap1 (i:=i) (n:=200000) (by omega) (by decide)];rfl
   | false=>exact cnF rfl rfl) (by
   unfold Z23L0
   exact cnF (by show decide _=false;rw [decide_eq_false_iff_not];show ¬ (L.length:Int)<((eEnds c u [] L).length:Int);omega) rfl)
  refine cnT (by simp [he]) (bt e62 (bt e ?_))
  rw [find_uu,any_not_all,←hL,List.all_map]
  show Sum.elim _ _ (bif !(L.all fun e=>overM u e.1) then _ else _)=some ((L.all fun e=>overM u e.1),0)
  cases (L.all fun e=>overM u e.1) with
  | true=>rfl
  | false=>rfl
 ·rw [decide_eq_false he,cond_false]
  exact cnF (by simp [he]) rfl
end
theorem Z5_ok (s:Spec) (hs:TabOk s.2.2.1∧TabOk s.2.2.2) (c:Code) (hc:CodeOk c) (u:Tab) (hu:TabOk u) (mks:List Int) (hlm:mks.length<Lg) :
  Z5 Ar.std s.1 s.2.1 (eTab s.2.2.1) (eTab s.2.2.2) (eCode c) (eTab u) (eInts mks)=some true:=by
 unfold Z5
 refine bt (v:=largeX s c u||decide (60<(mks.length:Int))) ?_ ?_
 ·refine bt (Z18_eq s hs c hc u hu) ?_
  simp only [std_zlt,len_enc]
  cases largeX s c u <;> rfl
 cases largeX s c u||decide (60<(mks.length:Int)) with
 | true=>exact cnT rfl (bt Z9_eq rfl)
 | false =>
   refine cnF rfl (bt (Z16_eq hs hc hu hlm) (bt (Z22_eq hs hc hu hlm) (bt (Z17_eq hc hu) (bt (Z23_eq hc hu) (bt (v:=true) ?_ rfl)))))
   exact cnT (by simp) (cnT (by simp) (cnT (by simp) (cnT (by simp) (bt Z9_eq rfl))))
end Go.Am
