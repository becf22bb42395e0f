/- Own text: ZL42. -/
import Derived.Test.YtkjeamngjnfpkaaGreatZL18
import Derived.Test.YtkjeamngjnfpkaaGreatZH12
set_option maxRecDepth 100000
set_option maxHeartbeats 2000000
set_option linter.unusedVariables false
set_option linter.unusedSimpArgs false
set_option linter.unusedSectionVars false
namespace Go.Am
open Go
section
variable {s:Spec} (hs:TabOk s.2.2.1/\TabOk s.2.2.2) (hk:specOk s=true)
include hs hk
end
end Go.Am

namespace Go.Am
open Go
theorem Z94b_rfl:Z94b=Z94:=rfl
theorem Z55a_eq {u:Tab} (x1:List D) (m:Mc) (h2:u.length<=2):Z55a Ar.std x1 (eTab u) m.a.cl m.a.ln m.a.r0 m.a.r1 m.a.r2 m.a.r3 m.a.at_ m.b.cl m.b.ln m.b.r0 m.b.r1 m.b.r2 m.b.r3 m.b.at_ m.c0 m.c1 m.c2 m.st (eCalls m.h) (eInts m.ms)=some (eInts (leftM u m)):=by
 unfold Z55a
 refine bt (left_it (n:=u.length) h2 (fun t=>hasM u t m) id (fun i o hi ho => ?_) (fun o => ?_)) rfl
 ·unfold Z55aL0
  rw [Z94b_rfl]
  refine cnT (by simp;omega) (bt (Z94_m x1 h2 (i:Int)) (bt (v:=eInts (bif hasM u (i:Int) m then o++[(i:Int)] else o)) ?_ ?_))
  ·cases hasM u (i:Int) m with
   | false=>rfl
   | true=>exact cnT rfl (bt (ap_enc1 (c:=cI .i64) rfl (by omega)) rfl)
  ·simp only [std_wrp,std_zadd,wrap1 hi (by omega)]
 ·unfold Z55aL0
  exact cnF (by simp) rfl
theorem leftM_len {u:Tab} (h2:u.length<=2) (m:Mc):(leftM u m).length<=2:=by
 unfold leftM
 rw [List.length_map]
 refine Nat.le_trans (List.length_filter_le _ _) ?_
 rw [List.length_range'];exact h2
theorem Z117_eq (l:List D) (h:l.length<4294967296):Z117 Ar.std l=some l:=by
 have e:ap Ar.std [] l=some l:=by simpa using ap_std (l:=[]) (m:=l) (by simpa using (by omega:(l.length:Int)<4294967296))
 unfold Z117
 cases l with
 | nil=>exact cnF rfl (by rw [e];exact both_self _)
 | cons x r=>exact cnT (by simp <;> omega) (by rw [e];rfl)
theorem scalInts (h:List Int):scalars (eInts h)=true:=by
 simp only [scalars,eInts,enc,List.all_map,List.all_eq_true]
 intro x _;rfl
def endsR (c:Code) (u:Tab) (mks:List Int):Nat->Mc->List Mc
 | 0,m=>[m]
 | k+1,m=>bif overM u m then [m] else (leftM u m).flatMap fun t=>endsR c u mks k (stepM c u mks t.toNat m)
section
variable {s:Spec} (hs:TabOk s.2.2.1/\TabOk s.2.2.2) (hk:specOk s=true) {c:Code} {u:Tab} {mks:List Int} (hmk:MkOk c mks) (hv:vCode c=true) (hu:vUse c u=true) (ho:s.2.1=(c.length:Int))
include hmk hv hu in
theorem tinv_next {m:Mc} (hi:MInv c u m) (hT:TInv c u m) {t:Int} (ht:hasM u t m=true):TInv c u (stepM c u mks t.toNat m):=by
 obtain ⟨h2,⟨g⟩⟩:=go1 hv hu hi (t:=t.toNat) (by
  have h0:0<=t:=by simp only [hasM,zp4,btw_true] at ht;omega
  rw [Int.toNat_of_nonneg h0];exact ht)
 have T:=(tinv_step hi hT h2 g).1
 exact ⟨T.one,T.two,T.ops,T.le,T.st0⟩
include hs hk hmk hv hu ho
end
end Go.Am

namespace Go.Am
open Go
structure TMk (m:Mc):Prop where
 tm : ∀ (i:Nat) (x:Int) (y:Call),m.ms[i]?=some x->m.h[i]?=some y->x≠0->y.fr<=2*x-1/\(y.to=0\/2*x<=y.to)
section
variable {c:Code} {u:Tab} {t:Nat} {m:Mc}
end
section
variable {m:Mc} (hI:MkI m) (hK:TMk m) (hl:m.ms.length=m.h.length) (hz:zeroM m=false)
include hI hK hl hz
end
section
variable {s:Spec} (hk:specOk s=true) {c:Code} {u:Tab} (hv:vCode c=true) (hu:vUse c u=true) (ho:s.2.1=(c.length:Int)) {m:Mc} (hT:TInv c u m) (hst:m.st<=12)
include hk hv hu ho hT hst
end
end Go.Am

namespace Go.Am
open Go
section
variable {c:Code} (hc:CodeOk c) (hv:vCode c=true) {ms:List Int} (hm : ∀ n∈ms,0<=n/\n<256)
include hc hv hm
end
end Go.Am

namespace Go.Am
open Go
theorem Z104a_rfl:Z104a=Z104:=rfl
abbrev ETup:=List D×List D×List D×List D×Int×Int×Int×Int×List D×List D×List D
abbrev cEnd:Cod ETup:=cG (refN 10 (lc (cL 1) (lc (cL 1) (lc (cL 1) (lc (cL 8) (lc (cI .i64) (lc (cI .i64) (lc (cI .i64) (lc (cI .i64) (lc (cL 6) (lc (cL 1) (l1 (cL 1)))))))))))) (fun _=>lb rfl))
abbrev Ent:=Mc×List H8×List Int
def tupE (c:Code) (u:Tab) (mks:List Int) (e:Ent):ETup :=
 (eCode c,eTab u,eInts mks,eHs e.2.1,e.1.st,e.1.c0,e.1.c1,e.1.c2,eCalls e.1.h,eInts (e.1.ms.map (· - 1)),eInts e.2.2)
def eEnds (c:Code) (u:Tab) (mks:List Int) (L:List Ent):List D:=enc cEnd (L.map (tupE c u mks))
structure EntOk (c:Code) (u:Tab) (e:Ent):Prop where
 r:RHs u e.1 e.2.1
 i:MInv c u e.1
 t:TInv c u e.1
 k:MkI e.1
 st:e.1.st<=12
theorem Z103a_m {c:Code} {u:Tab} {m:Mc} (x1 x3:List D) (x5 x6 x7 x8:Int) (x9 x10:List D) {hs:List H8} (hr:RHs u m hs) (hi:MInv c u m) (hul:u.length<=2) {t:Int} (hb:btw 0 t (u.length-1)=true) :
  Z103a Ar.std x1 (eTab u) x3 (eHs hs) x5 x6 x7 x8 x9 x10 t=some (hasM u t m):=by
 have hb':=(btw_true _ _ _).1 hb
 obtain ⟨T,rfl⟩:=zp9 hb'.1
 have hT:T<hs.length:=by rw [hr.1];omega
 have hg:hs[T]?=some hs[T]:=zp1 hT
 have hul':u[T]?=some u[T]:=zp1 (by rw [<-hr.1];exact hT)
 obtain ⟨q1,q2,q3⟩:=hr.2 T _ hg
 generalize hs[T]=x at hg q1 q2 q3
 obtain ⟨x1,y2,y3,y4,y5,y6,y7,y8⟩:=x
 simp only [Prod.mk.injEq] at q1 q2 q3
 obtain ⟨q3,q4,q5,q6,q7,q8⟩:=q3
 have H:=hi.hd (t:=T) (by omega)
 unfold Z103a
 refine bt (v:=hasM u T m) (bt (gt_enc (c:=cH8) (i:=T) hg) ?_) rfl
 dsimp only
 have hh:hasM u (T:Int) m=decide ((m.hd T).cl<((u[T]).length:Int)):=by
  simp only [hasM,hb,Bool.true_and,Int.toNat_natCast,getD_get hul']
 rw [hh,q3]
 cases hin:(m.hd T).inn with
 | true =>
   obtain ⟨_,h2,_⟩:=H.busy hin
   rw [getD_get hul'] at h2
   rw [cond_true];exact congrArg some (decide_eq_true h2).symm
 | false =>
   rw [hin] at q1;simp only [cond_false,Int.add_zero] at q1
   rw [cond_false]
   refine bt (gt_eTab hul') ?_
   simp only [std_zlt,len_enc,q1]
theorem over_anyM (u:Tab) (m:Mc):overM u m = !(List.range u.length).any fun t=>hasM u (t:Int) m:=by
 unfold overM leftM
 rw [Bool.eq_iff_iff]
 simp only [List.isEmpty_iff,List.map_eq_nil_iff,List.filter_eq_nil_iff,List.mem_range',Bool.not_eq_true',List.any_eq_false,List.mem_range]
 constructor
 ·intro h t ht;exact h t ⟨t,ht,by omega⟩
 ·rintro h t ⟨i,hi,rfl⟩;exact h _ (by omega)
theorem Z65a_m {c:Code} {u:Tab} {m:Mc} (x1 x3:List D) (x5 x6 x7 x8:Int) (x9 x10:List D) {hs:List H8} (hr:RHs u m hs) (hi:MInv c u m) (h2:u.length<=2) :
  Z65a Ar.std x1 (eTab u) x3 (eHs hs) x5 x6 x7 x8 x9 x10=some (overM u m):=by
 have e:=iter_rng (step:=Z65aL0 Ar.std x1 (eTab u) x3 (eHs hs) x5 x6 x7 x8 x9 x10) u.length (fun t=>hasM u (t:Int) m) (.inr ()) (.inl ())
  (fun i hi'=>by
   unfold Z65aL0
   refine cnT (by simp;omega) (bt (Z103a_m x1 x3 x5 x6 x7 x8 x9 x10 hr hi h2 (t:=(i:Int)) ((btw_true _ _ _).2 (by omega))) ?_)
   cases hasM u (i:Int) m with
   | true=>rfl
   | false=>exact cnF rfl (by simp only [std_wrp,std_zadd,wrap1 hi' (by omega)];rfl))
  (by unfold Z65aL0;exact cnF (by simp) rfl)
 unfold Z65a
 refine bt e ?_
 rw [over_anyM]
 cases (List.range u.length).any fun t=>hasM u (t:Int) m <;> rfl
theorem apN (l:List D) (h:l.length<4294967296):ap Ar.std [] l=some l:=by simpa using ap_std (l:=[]) (m:=l) (by simpa using (by omega:(l.length:Int)<4294967296))
theorem endsR_len {c:Code} {u:Tab} {mks:List Int} (h2:u.length<=2) : ∀ (k:Nat) (m:Mc),(endsR c u mks k m).length<=2 ^ k
 | 0,m=>Nat.le_refl _
 | k+1,m=>by
   unfold endsR
   cases overM u m with
   | true=>rw [cond_true];exact Nat.one_le_two_pow
   | false =>
     rw [cond_false,List.length_flatMap]
     have hl:=leftM_len h2 m
     generalize leftM u m=l at hl
     have key : ∀ l:List Int,(l.map fun t=>(endsR c u mks k (stepM c u mks t.toNat m)).length).sum<=l.length*2 ^ k:=by
      intro l
      induction l with
      | nil=>simp
      | cons t r ih =>
        have:=endsR_len (c:=c) (mks:=mks) h2 k (stepM c u mks t.toNat m)
        rw [List.map_cons,List.sum_cons,List.length_cons,Nat.add_mul,Nat.one_mul]
        omega
     have h3:=key l
     have h4:=Nat.mul_le_mul_right (2 ^ k) hl
     rw [Nat.pow_succ]
     omega
def preE (c:Code) (u:Tab) (mks:List Int) (k:Nat) (m:Mc) (i:Nat):List Mc :=
 (List.range i).flatMap fun t:Nat=>bif hasM u (t:Int) m then endsR c u mks k (stepM c u mks t m) else []
theorem preE_succ (c:Code) (u:Tab) (mks:List Int) (k:Nat) (m:Mc) (i:Nat):preE c u mks k m (i+1)=preE c u mks k m i++(bif hasM u (i:Int) m then endsR c u mks k (stepM c u mks i m) else []):=by
 unfold preE
 rw [List.range_succ,List.flatMap_append];simp
theorem preE_len {c:Code} {u:Tab} {mks:List Int} (h2:u.length<=2) (k:Nat) (m:Mc) : ∀ i:Nat,(preE c u mks k m i).length<=i*2 ^ k
 | 0=>by simp [preE]
 | i+1=>by
   rw [preE_succ,List.length_append,Nat.add_mul,Nat.one_mul]
   have:=preE_len (c:=c) (mks:=mks) h2 k m i
   have h3:=endsR_len (c:=c) (mks:=mks) h2 k (stepM c u mks i m)
   cases hasM u (i:Int) m with
   | true=>rw [cond_true];omega
   | false=>rw [cond_false];simp;omega
abbrev CellE:=List D->List D->List D->List D->Int->Int->Int->Int->List D->List D->List D->Int->List D->Option (List D)
section
variable {c:Code} {u:Tab} {mks:List Int} (hmk:MkOk c mks) (hv:vCode c=true) (hu:vUse c u=true)
include hmk hv hu
end
end Go.Am

namespace Go.Am
open Go
abbrev MS:=Mc×List Int
def endsS (c:Code) (u:Tab) (mks:List Int):Nat->Mc->List Int->List MS
 | 0,m,sch=>[(m,sch)]
 | k+1,m,sch=>bif overM u m then [(m,sch)] else (leftM u m).flatMap fun t=>endsS c u mks k (stepM c u mks t.toNat m) (sch++[t])
theorem endsS_fst (c:Code) (u:Tab) (mks:List Int) : ∀ (k:Nat) (m:Mc) (sch:List Int),(endsS c u mks k m sch).map (·.1)=endsR c u mks k m
 | 0,m,sch=>rfl
 | k+1,m,sch=>by
   unfold endsS endsR
   cases overM u m with
   | true=>rfl
   | false =>
     rw [cond_false,cond_false,List.map_flatMap]
     congr 1
     funext t
     exact endsS_fst c u mks k _ _
def preS (c:Code) (u:Tab) (mks:List Int) (k:Nat) (m:Mc) (sch:List Int) (i:Nat):List MS :=
 (List.range i).flatMap fun t:Nat=>bif hasM u (t:Int) m then endsS c u mks k (stepM c u mks t m) (sch++[(t:Int)]) else []
theorem preS_succ (c:Code) (u:Tab) (mks:List Int) (k:Nat) (m:Mc) (sch:List Int) (i:Nat):preS c u mks k m sch (i+1)=preS c u mks k m sch i++(bif hasM u (i:Int) m then endsS c u mks k (stepM c u mks i m) (sch++[(i:Int)]) else []):=by
 unfold preS
 rw [List.range_succ,List.flatMap_append];simp
theorem preS_fst (c:Code) (u:Tab) (mks:List Int) (k:Nat) (m:Mc) (sch:List Int) (i:Nat):(preS c u mks k m sch i).map (·.1)=preE c u mks k m i:=by
 unfold preS preE
 rw [List.map_flatMap]
 congr 1
 funext t
 cases hasM u (t:Int) m with
 | true=>exact endsS_fst c u mks k _ _
 | false=>rfl
theorem preS_all {c:Code} {u:Tab} {mks:List Int} (k:Nat) (m:Mc) (sch:List Int):preS c u mks k m sch u.length=(leftM u m).flatMap fun t=>endsS c u mks k (stepM c u mks t.toNat m) (sch++[t]):=by
 unfold preS leftM
 rw [List.flatMap_map,<-List.range_eq_range']
 induction (List.range u.length) with
 | nil=>rfl
 | cons t r ih =>
   rw [List.flatMap_cons,ih,List.filter_cons]
   cases hasM u (t:Int) m with
   | true=>simp
   | false=>simp
def eMS (e:Ent):MS:=(e.1,e.2.2)
section
variable {c:Code} {u:Tab} {mks:List Int} (hmk:MkOk c mks) (hv:vCode c=true) (hu:vUse c u=true)
def SelfES (c:Code) (u:Tab) (mks:List Int) (k:Nat) (slf:CellE):Prop :=
 ∀ (m:Mc) (hs:List H8) (sch:List Int) (O:List Ent),EntOk c u (m,hs,sch)->m.st+k<=12->(sch.length:Int)<=m.st->O.length+2 ^ k<=100000 ->
   ∃ L:List Ent,slf (eCode c) (eTab u) (eInts mks) (eHs hs) m.st m.c0 m.c1 m.c2 (eCalls m.h) (eInts (m.ms.map (· - 1))) (eInts sch) (k:Int) (eEnds c u mks O)=some (eEnds c u mks (O++L))/\L.map eMS=endsS c u mks k m sch /\ ∀ e∈L,EntOk c u e
include hmk hv hu
theorem endsES_ok (k:Nat) (slf:CellE) (hself : ∀ k',k=k'+1->SelfES c u mks k' slf):SelfES c u mks k (Z102B Ar.std slf):=by
 intro m hs sch O he hst hsch hO
 have h2:=ulen mks hmk hv hu
 have hi:MInv c u m:=he.i
 have hT:TInv c u m:=he.t
 have hr:RHs u m hs:=he.r
 have hms:=hi.ms
 have hhs:=hi.st
 have hp0:0<2 ^ k:=Nat.two_pow_pos k
 have hst0:=hT.st0
 unfold Z102B
 have e1:(bif (Ar.std.zeq (k:Int) 0) then some true else (Z65a Ar.std (eCode c) (eTab u) (eInts mks) (eHs hs) m.st m.c0 m.c1 m.c2 (eCalls m.h) (eInts (m.ms.map (· - 1)))).bind fun r16=>some r16:Option Bool)=some (decide (k=0)||overM u m):=by
  by_cases hk:k=0
  ·rw [decide_eq_true hk];exact cnT (by simp [hk]) rfl
  ·rw [decide_eq_false hk,Bool.false_or]
   exact cnF (by simp;omega) (bt (Z65a_m _ _ _ _ _ _ _ _ hr hi h2) rfl)
 ·cases hb:(decide (k=0)||overM u m) with
  | true =>
    rw [hb] at e1
    refine ⟨[(m,hs,sch)],bt e1 ?_,?_,fun e he'=>by rw [List.mem_singleton] at he';subst he';exact he⟩
    ·refine cnT rfl (bt (ap_enc1 (c:=cEnd) (a:=tupE c u mks (m,hs,sch)) rfl (by rw [List.length_map];omega)) ?_)
     unfold eEnds
     rw [List.map_append];rfl
    ·cases k with
     | zero=>rfl
     | succ k =>
       rw [Bool.or_eq_true,decide_eq_true_eq] at hb
       have:overM u m=true:=hb.resolve_left (by omega)
       unfold endsS
       rw [this];rfl
  | false =>
    rw [hb] at e1
    rw [Bool.or_eq_false_iff,decide_eq_false_iff_not] at hb
    obtain ⟨k',rfl⟩ : ∃ k',k=k'+1:=⟨k-1,by omega⟩
    have hself:=hself k' rfl
    rw [Nat.pow_succ] at hO
    have hp1:0<2 ^ k':=Nat.two_pow_pos k'
    obtain ⟨L,⟨hL,hE⟩,e⟩:=iter_rel (step:=Z102L0 Ar.std (eCode c) (eTab u) (eInts mks) (eHs hs) m.st m.c0 m.c1 m.c2 (eCalls m.h) (eInts (m.ms.map (· - 1))) (eInts sch) ((k'+1:Nat):Int) slf) u.length
     (fun (L:List Ent) (i:Nat)=>(eEnds c u mks (O++L),(i:Int))) (fun i L=>L.map eMS=preS c u mks k' m sch i /\ ∀ e∈L,EntOk c u e) (fun L=>eEnds c u mks (O++L))
     (fun i L hi' ⟨hL,hE⟩=>by
      have hb':btw 0 (i:Int) (u.length-1)=true:=(btw_true _ _ _).2 (by omega)
      have hm:=Z103a_m (eCode c) (eInts mks) m.st m.c0 m.c1 m.c2 (eCalls m.h) (eInts (m.ms.map (· - 1))) hr hi h2 hb'
      cases ht:hasM u (i:Int) m with
      | false =>
        refine ⟨L,⟨by rw [hL,preS_succ,ht,cond_false,List.append_nil],hE⟩,?_⟩
        unfold Z102L0
        refine cnT (by simp;omega) (bt hm ?_)
        rw [ht]
        refine bt (cnF rfl rfl) ?_
        simp only [std_wrp,std_zadd,wrap1 hi' (by omega)]
      | true =>
        obtain ⟨hs',e104,hr'⟩:=Z104_m mks hmk hv hu hi (by omega) hr ht
        have hnx:=minv_next mks hmk hv hu hi ht
        have hLl:L.length<=i*2 ^ k':=by
         have h3:=preE_len (c:=c) (mks:=mks) h2 k' m i
         rw [<-preS_fst c u mks k' m sch i,<-hL,List.length_map,List.length_map] at h3;exact h3
        have hi1:i*2 ^ k'<=1*2 ^ k':=Nat.mul_le_mul_right _ (by omega)
        obtain ⟨L',e',hL',hE'⟩:=hself (stepM c u mks i m) hs' (sch++[(i:Int)]) (O++L) ⟨hr',hnx,tinv_next hmk hv hu hi hT ht,mki_step mks he.k hst0,by show m.st+1<=12;omega⟩ (by show m.st+1+(k':Int)<=12;omega) (by rw [List.length_append];show ((sch.length+1:Nat):Int)<=m.st+1;omega) (by rw [List.length_append];omega)
        refine ⟨L++L',⟨by rw [List.map_append,hL,hL',preS_succ,ht,cond_true],fun e he'=>(List.mem_append.1 he').elim (hE e) (hE' e)⟩,?_⟩
        unfold Z102L0
        refine cnT (by simp;omega) (bt hm ?_)
        rw [ht]
        have hk1:Ar.std.wrp .i64 (Ar.std.zsub ((k'+1:Nat):Int) 1)=(k':Int):=by
         simp only [std_wrp,std_zsub]
         rw [i64w _ (by omega) (by omega)];omega
        refine bt (cnT rfl (bt (v:=(eCode c,eTab u,eInts mks,m.st,m.c0,m.c1,m.c2,eHs hs,eCalls m.h,eInts (m.ms.map (· - 1)))) ?_ (bt (by rw [Z104a_rfl];exact e104) (bt (apN _ (by simp;omega)) (bt (ap_enc1 (c:=cI .i64) rfl (by omega)) (by rw [hk1];exact bt e' rfl)))))) ?_
        ·unfold Z148
         have hsl:hs.length=u.length:=hr.1
         exact bt (apN _ (by simp;omega)) (bt (apN _ (by simp;omega)) (bt (apN _ (by simp;omega)) rfl))
        ·simp only [std_wrp,std_zadd,wrap1 hi' (by omega),List.append_assoc])
     (fun L _=>by unfold Z102L0;exact cnF (by simp) rfl) [] ⟨rfl,fun e he=>by cases he⟩
    refine ⟨L,bt e1 ?_,?_,hE⟩
    ·refine cnF rfl ?_
     rw [List.append_nil] at e
     exact bt e rfl
    ·rw [hL,preS_all]
     show _=(bif overM u m then [(m,sch)] else (leftM u m).flatMap fun t=>endsS c u mks k' (stepM c u mks t.toNat m) (sch++[t]))
     rw [hb.2,cond_false]
theorem Z102R_okS : ∀ (k j:Nat),k<j->SelfES c u mks k (Z102R Ar.std j)
 | k,0,h=>by omega
 | k,j+1,h=>endsES_ok hmk hv hu k (Z102R Ar.std j) fun k' hk'=>Z102R_okS k' j (by omega)
theorem Z62_okS (k:Nat) (hk:k<=12) : ∃ L:List Ent,Z62 Ar.std (eCode c) (eTab u) (eInts mks) (k:Int)=some (eEnds c u mks L)/\L.map eMS=endsS c u mks k mc0 [] /\ ∀ e∈L,EntOk c u e:=by
 have h2:=ulen mks hmk hv hu
 have hp:2 ^ k<=2 ^ 12:=Nat.pow_le_pow_right (by omega) hk
 obtain ⟨L,e,hL,hE⟩:=Z102R_okS hmk hv hu k fuel (by unfold fuel;omega) mc0 (List.replicate u.length (0,0,false,0,0,0,0,0)) [] [] ⟨rhs0 _ u rfl,minv0 c u,tinv0 c u,mki0,by show (0:Int)<=12;decide⟩ (by show (0:Int)+k<=12;omega) (by decide) (by simp;omega)
 refine ⟨L,?_,hL,hE⟩
 have e101:Z101 Ar.std (eCode c) (eTab u) (eInts mks)=some (eCode c,eTab u,eInts mks,eHs (List.replicate u.length (0,0,false,0,0,0,0,0))):=by
  unfold Z101
  refine bt (ck_of (by simp)) (bt (ck_of (by simp)) (bt (ck_of (by simp;omega)) ?_))
  rw [len_eTab]
  have:=enc_rep (c:=cH8) (u.length:Int) (0,0,false,0,0,0,0,0)
  rw [Int.toNat_natCast] at this
  exact congrArg (fun x=>some (eCode c,eTab u,eInts mks,x)) this
 unfold Z62
 refine bt e101 (bt ?_ rfl)
 rw [List.nil_append] at e
 exact e
end
end Go.Am

namespace Go.Am
open Go
def cellsC (x:Call):List D:=[.int .i64 x.th,.int .i64 x.ob,.int .i64 x.op,.int .i64 x.sa,.int .i64 x.fr,.int .i64 x.to]
def callZ:Call:=(0,0,0,0,0,0)
def padR:Nat->List Call->List D
 | 0,_=>[]
 | n+1,[]=>cellsC callZ++padR n []
 | n+1,x::r=>cellsC x++padR n r
theorem flat_calls (x:Call) (r:List Call):D.flat (eCalls (x::r))=cellsC x++D.flat (eCalls r):=rfl
theorem flat_len (h:List Call):(D.flat (eCalls h)).length=6*h.length:=by
 induction h with
 | nil=>rfl
 | cons x r ih=>rw [flat_calls,List.length_append,ih,List.length_cons];show 6+_=_;omega
theorem padR_nil (n:Nat):padR n []=List.replicate (6*n) (.int .i64 0):=by
 induction n with
 | zero=>rfl
 | succ n ih =>
   show cellsC callZ++padR n []=_
   rw [ih,show 6*(n+1)=6+6*n by omega,<-List.replicate_append_replicate];rfl
theorem padR_eq : ∀ (n:Nat) (h:List Call),h.length<=n->D.flat (eCalls h)++(List.replicate (6*n) (.int .i64 0)).drop (6*h.length)=padR n h
 | n,[],_=>by rw [padR_nil];rfl
 | 0,x::r,h=>by simp at h
 | n+1,x::r,h=>by
   have ih:=padR_eq n r (by simpa using h)
   rw [flat_calls,List.append_assoc]
   show _=cellsC x++padR n r
   rw [<-ih,List.drop_replicate,List.drop_replicate,List.length_cons]
   congr 2
   congr 1
   omega
theorem padR_len : ∀ (n:Nat) (h:List Call),(padR n h).length=6*n
 | 0,_=>rfl
 | n+1,[]=>by show (cellsC callZ++padR n []).length=_;rw [List.length_append,padR_len n []];show 6+_=_;omega
 | n+1,x::r=>by show (cellsC x++padR n r).length=_;rw [List.length_append,padR_len n r];show 6+_=_;omega
theorem padR_conf : ∀ (n:Nat) (h:List Call),confD (List.replicate (6*n) (.int .i64)) (padR n h)=true
 | 0,_=>rfl
 | n+1,[]=>by
   rw [show 6*(n+1)=6*n+1+1+1+1+1+1 by omega]
   simp only [List.replicate_succ]
   show confD _ (.int .i64 _ :: .int .i64 _ :: .int .i64 _ :: .int .i64 _ :: .int .i64 _ :: .int .i64 _::padR n [])=true
   simp only [confD,CK.fits,decide_true,Bool.true_and,padR_conf n []]
 | n+1,x::r=>by
   rw [show 6*(n+1)=6*n+1+1+1+1+1+1 by omega]
   simp only [List.replicate_succ]
   show confD _ (.int .i64 _ :: .int .i64 _ :: .int .i64 _ :: .int .i64 _ :: .int .i64 _ :: .int .i64 _::padR n r)=true
   simp only [confD,CK.fits,decide_true,Bool.true_and,padR_conf n r]
theorem padR_ones : ∀ (n:Nat) (h:List Call),(padR n h).all D.isOne=true
 | 0,_=>rfl
 | n+1,[]=>by show (cellsC callZ++padR n []).all D.isOne=true;rw [List.all_append,padR_ones n []];rfl
 | n+1,x::r=>by show (cellsC x++padR n r).all D.isOne=true;rw [List.all_append,padR_ones n r];rfl
theorem cellsC_inj {x y:Call} {a b:List D} (h:cellsC x++a=cellsC y++b):x=y/\a=b:=by
 obtain ⟨x1,x2,x3,x4,x5,x6⟩:=x
 obtain ⟨y1,y2,y3,y4,y5,y6⟩:=y
 simp only [cellsC,List.cons_append,List.nil_append,List.cons.injEq,D.int.injEq,true_and] at h
 obtain ⟨h1,h2,h3,h4,h5,h6,h7⟩:=h
 refine ⟨?_,h7⟩
 simp only [Prod.mk.injEq]
 exact ⟨h1,h2,h3,h4,h5,h6⟩
theorem padR_inj : ∀ (n:Nat) (h h':List Call),h.length<=n->h'.length<=n->(∀ x∈h,x.fr≠0)->(∀ x∈h',x.fr≠0)->padR n h=padR n h'->h=h'
 | _,[],[],_,_,_,_,_=>rfl
 | 0,x::r,_,h,_,_,_,_=>by simp at h
 | 0,[],x::r,_,h,_,_,_=>by simp at h
 | n+1,[],y::r,_,_,_,h2,e=>by
   have:=(cellsC_inj (x:=callZ) (y:=y) (a:=padR n []) (b:=padR n r) e).1
   subst this
   exact absurd rfl (h2 callZ (by simp))
 | n+1,x::r,[],_,_,h1,_,e=>by
   have:=(cellsC_inj (x:=x) (y:=callZ) (a:=padR n r) (b:=padR n []) e).1
   subst this
   exact absurd rfl (h1 callZ (by simp))
 | n+1,x::r,y::q,l1,l2,h1,h2,e=>by
   obtain ⟨e1,e2⟩:=cellsC_inj (x:=x) (y:=y) (a:=padR n r) (b:=padR n q) e
   subst e1
   rw [padR_inj n r q (by simpa using l1) (by simpa using l2) (fun z hz=>h1 z (by simp [hz])) (fun z hz=>h2 z (by simp [hz])) e2]
def KD (h:List Call):D := .agg (padR 6 h)
def H6 (h:List Call):Prop:=h.length<=6 /\ ∀ x∈h,x.fr≠0
def GoodB (s:Spec) (mp:List (D×D)):Prop := ∀ (h:List Call) (v:D),H6 h->Am.mget mp (KD h)=some v->v = .bool true/\linB s h=true
theorem GoodB.nil (s:Spec):GoodB s []:=fun h v _ hv=>by simp [Am.mget] at hv
theorem GoodB.put {s:Spec} {mp:List (D×D)} (hg:GoodB s mp) {h:List Call} (hh:H6 h) (hl:linB s h=true):GoodB s (Am.mput mp (KD h) (.bool true)):=by
 intro h' v hh' hv
 rw [mget_mput] at hv
 split at hv
 ·rename_i e
  have e':padR 6 h=padR 6 h':=by
   unfold KD at e
   exact D.agg.inj e
  have:=padR_inj 6 h h' hh.1 hh'.1 hh.2 hh'.2 e'
  subst this
  exact ⟨(Option.some.inj hv).symm,hl⟩
 ·exact hg h' v hh' hv
theorem ga_key {h:List Call} (hl:h.length<=6):ga Ar.std (Ar.std.spl (Ar.std.rep (Int.ofNat 36) (.int .i64 0)) (Ar.std.zmul 0 (Int.ofNat 6)) (Ar.std.flat (eCalls h))) (Ar.std.zadd 0 (Int.ofNat 0)) (Int.ofNat 36)=some (padR 6 h):=by
 have e:Ar.std.spl (Ar.std.rep (Int.ofNat 36) (.int .i64 0)) (Ar.std.zmul 0 (Int.ofNat 6)) (Ar.std.flat (eCalls h))=padR 6 h:=by
  rw [<-padR_eq 6 h hl]
  show (List.replicate 36 (D.int .i64 0)).take 0++D.flat (eCalls h)++(List.replicate 36 (D.int .i64 0)).drop (0+(D.flat (eCalls h)).length)=_
  rw [List.take_zero,List.nil_append,Nat.zero_add,flat_len]
 rw [e]
 have hlen:=padR_len 6 h
 have e1:Ar.std.sub (padR 6 h) (Ar.std.zadd 0 (Int.ofNat 0)) (Ar.std.zadd (Ar.std.zadd 0 (Int.ofNat 0)) (Int.ofNat 36))=padR 6 h:=by
  show ((padR 6 h).drop 0).take 36=_
  rw [List.drop_zero,List.take_of_length_le (by omega)]
 have e2:Ar.std.zle (Ar.std.zadd (Ar.std.zadd 0 (Int.ofNat 0)) (Int.ofNat 36)) (Ar.std.len (padR 6 h))=true:=by
  show decide ((36:Int)<=((padR 6 h).length:Int))=true
  rw [hlen];rfl
 unfold ga
 rw [e2,e1]
 show (bif (padR 6 h).all D.isOne then _ else _)=_
 rw [padR_ones];rfl
theorem conf_key (h:List Call):Ar.std.conf [.int .i64,.int .i64,.int .i64,.int .i64,.int .i64,.int .i64,.int .i64,.int .i64,.int .i64,.int .i64,.int .i64,.int .i64,.int .i64,.int .i64,.int .i64,.int .i64,.int .i64,.int .i64,.int .i64,.int .i64,.int .i64,.int .i64,.int .i64,.int .i64,.int .i64,.int .i64,.int .i64,.int .i64,.int .i64,.int .i64,.int .i64,.int .i64,.int .i64,.int .i64,.int .i64,.int .i64] (padR 6 h)=true :=
 padR_conf 6 h
section
variable {s:Spec} (hs:TabOk s.2.2.1/\TabOk s.2.2.2)
include hs
theorem Z37_eq {h:List Call} (hh:H6 h) {mp:List (D×D)} (hg:GoodB s mp) (sch out:List D) (x1 x2:List D) (x3 x4 x5 x6 x7 x8 x9 x10 x11 x12 x13 x14 x15 x16 x17 x18 x19 x20:Int) (x22:List D) :
  ∃ mp',GoodB s mp'/\Z37 Ar.std x1 x2 x3 x4 x5 x6 x7 x8 x9 x10 x11 x12 x13 x14 x15 x16 x17 x18 x19 x20 (eCalls h) x22 sch s.1 s.2.1 (eTab s.2.2.1) (eTab s.2.2.2) mp out
    = some (bif linB s h then (true,mp',out) else (false,mp',sch)):=by
 have hll:h.length<Lg:=Nat.lt_of_le_of_lt hh.1 (by decide)
 have c1:ck (Ar.std.zle (Ar.std.len (eCalls h)) (Int.ofNat 6))=some ():=ck_of (by
  rw [len_enc]
  show decide ((h.length:Int)<=6)=true
  have:=hh.1
  exact decide_eq_true (by omega))
 have c2:ck (Ar.std.zle (Ar.std.zmul (Ar.std.zadd 0 (Int.ofNat 6)) (Int.ofNat 6)) (Ar.std.len (Ar.std.rep (Int.ofNat 36) (.int .i64 0))))=some ():=ck_of (by
  show decide ((36:Int)<=(((List.replicate 36 (D.int .i64 0)).length:Nat):Int))=true
  rw [List.length_replicate];rfl)
 have hga:=ga_key hh.1
 have hck:=ck_of (conf_key h)
 have hmg:Ar.std.mget mp (.agg (padR 6 h))=Am.mget mp (KD h):=rfl
 cases hm:Am.mget mp (KD h) with
 | some v =>
   obtain ⟨rfl,hlin⟩:=hg h v hh hm
   refine ⟨mp,hg,?_⟩
   rw [hlin,cond_true]
   unfold Z37
   refine bt c1 (bt c2 (bt (v:=false) (bt hga (bt hck (bt (v:=some true) ?_ rfl))) ?_))
   ·unfold lk
    rw [hmg,hm];rfl
   ·unfold jn
    exact cnF rfl rfl
 | none =>
   have hlk:lk Ar.std cB mp (.agg (padR 6 h))=some none:=by
    unfold lk
    rw [hmg,hm];rfl
   cases hlin:linB s h with
   | true =>
     refine ⟨Am.mput mp (KD h) (.bool true),hg.put hh hlin,?_⟩
     unfold Z37
     refine bt c1 (bt c2 (bt (v:=true) (bt hga (bt hck (bt hlk rfl))) ?_))
     unfold jn
     refine cnT rfl (bt (Z38_eq hs h hll) ?_)
     rw [hlin]
     exact cnT rfl (bt hga (bt hck rfl))
   | false =>
     refine ⟨mp,hg,?_⟩
     unfold Z37
     refine bt c1 (bt c2 (bt (v:=true) (bt hga (bt hck (bt hlk rfl))) ?_))
     unfold jn
     refine cnT rfl (bt (Z38_eq hs h hll) ?_)
     rw [hlin]
     exact cnF rfl rfl
end
end Go.Am

namespace Go.Am
open Go
section
variable {m:Mc} (hI:MkI m) (hl:m.ms.length=m.h.length) (hs:m.st<=100) (hs0:0<=m.st) (hh:m.h.length<=100)
include hI hl hs hs0 hh
end
end Go.Am

namespace Go.Am
open Go
theorem specE_all {s:Spec} {c:Code} {u:Tab} (h:specE s c u=0):vCode c=true/\specOk s=true/\s.2.1=(c.length:Int)/\vUse c u=true:=by
 unfold specE at h
 cases hv:vCode c with
 | false=>rw [hv] at h;simp at h
 | true =>
   rw [hv] at h
   cases hs:specOk s&&decide (s.2.1=(c.length:Int)) with
   | false=>rw [hs] at h;simp at h
   | true =>
     rw [hs] at h
     rw [zp4,decide_eq_true_eq] at hs
     cases hu:vUse c u with
     | false=>rw [hu] at h;simp at h
     | true=>exact ⟨rfl,hs.1,hs.2,rfl⟩
section
variable {s:Spec} (hs:TabOk s.2.2.1/\TabOk s.2.2.2) {c:Code} (hc:CodeOk c) {u:Tab} (hut:TabOk u) {mks:List Int} (hlm:mks.length<Lg)
include hs hc hut hlm
end
section
variable {c:Code} {u:Tab} {mks:List Int} (hmk:MkOk c mks) (hv:vCode c=true) (hu:vUse c u=true)
include hmk hv hu
end
section
variable {c:Code} (hc:CodeOk c) {u:Tab} (hut:TabOk u)
include hc hut
end
end Go.Am

namespace Go.Am
open Go
abbrev CellB:=List D->List D->Int->Int->Int->Int->Int->Int->Int->Int->Int->Int->Int->Int->Int->Int->Int->Int->Int->Int->List D->List D->Int->List D->List D->Int->Int->List D->List D->List (D×D)->List D->Option (Bool×List (D×D)×List D)
def firstB (s:Spec) (L:List MS):Option MS:=L.find? fun e => !linB s e.1.h
theorem firstB_app (s:Spec) (a b:List MS):firstB s (a++b)=(firstB s a).or (firstB s b):=List.find?_append
def resB (o:Option MS) (mp:List (D×D)) (out:List D):Bool×List (D×D)×List D :=
 match o with
 | none=>(true,mp,out)
 | some e=>(false,mp,eInts e.2)
def resO (o:Option MS) (mp:List (D×D)) (out:List D):Bool×List D×List (D×D) :=
 match o with
 | none=>(true,out,mp)
 | some e=>(false,eInts e.2,mp)
theorem run6 {c:Code} {u:Tab} (hv:vCode c=true) (hu:vUse c u=true) {m:Mc} (hT:TInv c u m):H6 m.h:=by
 refine ⟨?_,fun x hx=>by have:=(hT.one x hx).2.2.2.2.1.1;omega⟩
 rw [two_len m.h (fun x hx=>(hT.one x hx).1)]
 have a:=hT.ops 0 (by decide)
 have b:=hT.ops 1 (by decide)
 have a':(opsOf m.h 0).length<=3:=by
  have:opsOf m.h 0=_:=a
  rw [this,List.length_take];have:=word3 hv hu 0;omega
 have b':(opsOf m.h 1).length<=3:=by
  have:opsOf m.h 1=_:=b
  rw [this,List.length_take];have:=word3 hv hu 1;omega
 omega
abbrev cellT (c:Code) (u:Tab) (m:Mc):=(eCode c,eTab u,m.a.cl,m.a.ln,m.a.r0,m.a.r1,m.a.r2,m.a.r3,m.a.at_,m.b.cl,m.b.ln,m.b.r0,m.b.r1,m.b.r2,m.b.r3,m.b.at_,m.c0,m.c1,m.c2,m.st,eCalls m.h,eInts m.ms)
section
variable {s:Spec} (hs:TabOk s.2.2.1/\TabOk s.2.2.2) {c:Code} {u:Tab} {mks:List Int} (hmk:MkOk c mks) (hv:vCode c=true) (hu:vUse c u=true) {steps:Int} (hs0:steps<=12)
def SelfB (s:Spec) (c:Code) (u:Tab) (mks:List Int) (steps:Int) (k:Nat) (slf:CellB):Prop :=
 ∀ (m:Mc) (sch:List Int) (mp:List (D×D)) (out:List D),MInv c u m->TInv c u m->m.st+k=steps->(sch.length:Int)<=m.st->GoodB s mp ->
   ∃ mp',GoodB s mp'/\slf (eCode c) (eTab u) m.a.cl m.a.ln m.a.r0 m.a.r1 m.a.r2 m.a.r3 m.a.at_ m.b.cl m.b.ln m.b.r0 m.b.r1 m.b.r2 m.b.r3 m.b.at_ m.c0 m.c1 m.c2 m.st (eCalls m.h) (eInts m.ms) steps (eInts mks) (eInts sch) s.1 s.2.1 (eTab s.2.2.1) (eTab s.2.2.2) mp out=some (resB (firstB s (endsS c u mks k m sch)) mp' out)
include hs hmk hv hu hs0
theorem visB_ok (k:Nat) (slf:CellB) (hself : ∀ k',k=k'+1->SelfB s c u mks steps k' slf):SelfB s c u mks steps k (Z36eB Ar.std slf):=by
 intro m sch mp out hi hT hst hsch hg
 have h2:=ulen mks hmk hv hu
 have hhs:=hi.st
 have hms:=hi.ms
 have h6:=run6 hv hu hT
 have ee:(bif Ar.std.zeq (Ar.std.len (eInts (leftM u m))) 0 then some true else some (Ar.std.zeq m.st steps):Option Bool)=some (overM u m||decide (m.st=steps)):=by
  unfold overM
  cases hl:leftM u m with
  | nil=>rfl
  | cons t r=>exact cnF (by simp <;> omega) rfl
 cases hb:(overM u m||decide (m.st=steps)) with
 | true =>
   have he:endsS c u mks k m sch=[(m,sch)]:=by
    cases k with
    | zero=>rfl
    | succ k =>
      unfold endsS
      have:overM u m=true:=by
       rw [Bool.or_eq_true,decide_eq_true_eq] at hb
       rcases hb with h | h
       ·exact h
       ·omega
      rw [this,cond_true]
   obtain ⟨mp',hg',e37⟩:=Z37_eq hs h6 hg (eInts sch) out (eCode c) (eTab u) m.a.cl m.a.ln m.a.r0 m.a.r1 m.a.r2 m.a.r3 m.a.at_ m.b.cl m.b.ln m.b.r0 m.b.r1 m.b.r2 m.b.r3 m.b.at_ m.c0 m.c1 m.c2 m.st (eInts m.ms)
   refine ⟨mp',hg',?_⟩
   unfold Z36eB
   refine bt (Z55a_eq (eCode c) m h2) (bt ee ?_)
   rw [hb]
   refine cnT rfl (bt e37 ?_)
   rw [he]
   unfold firstB
   simp only [List.find?_cons,List.find?_nil]
   cases linB s m.h <;> rfl
 | false =>
   have hb':=hb
   rw [Bool.or_eq_false_iff,decide_eq_false_iff_not] at hb'
   obtain ⟨k',rfl⟩ : ∃ k',k=k'+1:=⟨k-1,by have:=hb'.2;omega⟩
   have hself:=hself k' rfl
   have hll:=leftM_len h2 m
   have he:endsS c u mks (k'+1) m sch=(leftM u m).flatMap fun t=>endsS c u mks k' (stepM c u mks t.toNat m) (sch++[t]):=by
    show (bif overM u m then [(m,sch)] else _)=_
    rw [hb'.1,cond_false]
   have key:=iter_relE (step:=Z36eL0 Ar.std (eCode c) (eTab u) m.a.cl m.a.ln m.a.r0 m.a.r1 m.a.r2 m.a.r3 m.a.at_ m.b.cl m.b.ln m.b.r0 m.b.r1 m.b.r2 m.b.r3 m.b.at_ m.c0 m.c1 m.c2 m.st (eCalls m.h) (eInts m.ms) steps (eInts mks) (eInts sch) s.1 s.2.1 (eTab s.2.2.1) (eTab s.2.2.2) (eInts (leftM u m)) slf) (leftM u m).length
    (fun (mp:List (D×D)) (i:Nat)=>((i:Int),mp,out)) (fun i mp=>GoodB s mp/\firstB s (((leftM u m).take i).flatMap fun t=>endsS c u mks k' (stepM c u mks t.toNat m) (sch++[t]))=none)
    (fun i x => ∃ mp' e w,GoodB s mp'/\firstB s (((leftM u m).take (i+1)).flatMap fun t=>endsS c u mks k' (stepM c u mks t.toNat m) (sch++[t]))=some e/\x = .inr (mp',eInts e.2,w))
    (fun mp => .inl (mp,out))
    (fun i mp hi' ⟨hg,hn0⟩=>by
     have hn:=zp1 hi'
     generalize (leftM u m)[i]=t at hn
     have ht:=leftM_has (List.mem_of_getElem? hn)
     have hn1:=minv_next mks hmk hv hu hi ht
     have hsl:sl Ar.std (eInts sch) 0 (Ar.std.len (eInts sch))=some (eInts sch):=by
      rw [len_enc,sl_encT (Nat.le_refl _),List.take_length]
     have e83:Z83 Ar.std (eCode c) (eTab u) m.a.cl m.a.ln m.a.r0 m.a.r1 m.a.r2 m.a.r3 m.a.at_ m.b.cl m.b.ln m.b.r0 m.b.r1 m.b.r2 m.b.r3 m.b.at_ m.c0 m.c1 m.c2 m.st (eCalls m.h) (eInts m.ms)=some (cellT c u m):=by
      unfold Z83
      exact bt (Z117_eq _ (by simp;omega)) (bt (v:=()) (by rw [scalCalls];rfl) (bt (Z39_eq (c:=[]) ⟨by decide,fun r h=>by cases h⟩ (u:=[]) ⟨by decide,fun r h=>by cases h⟩ (sch:=[]) (by decide) _ (by simp;omega)) (bt (v:=()) (by rw [scalInts];rfl) rfl)))
     obtain ⟨mp',hg',e⟩:=hself (stepM c u mks t.toNat m) (sch++[t]) mp out hn1 (tinv_next hmk hv hu hi hT ht) (by show m.st+1+(k':Int)=steps;omega) (by rw [List.length_append];show ((sch.length+1:Nat):Int)<=m.st+1;omega) hg
     have hfm:firstB s (((leftM u m).take (i+1)).flatMap fun t=>endsS c u mks k' (stepM c u mks t.toNat m) (sch++[t]))=firstB s (endsS c u mks k' (stepM c u mks t.toNat m) (sch++[t])):=by
      rw [take_succ_get hn,List.flatMap_append,firstB_app,hn0,Option.none_or]
      simp only [List.flatMap_cons,List.flatMap_nil,List.append_nil]
     cases hf:firstB s (endsS c u mks k' (stepM c u mks t.toNat m) (sch++[t])) with
     | none =>
       rw [hf] at e
       refine .inl ⟨mp',⟨hg',by rw [hfm,hf]⟩,?_⟩
       unfold Z36eL0
       refine cnT (by simp;omega) (bt (gt_enc hn) (bt e83 (bt (Z84_m mks hmk hv hu hi (by omega) ht) (bt hsl (bt (v:=()) (by simp [ck]) (bt (ap_enc1 (c:=cI .i64) rfl (by omega)) (bt e ?_)))))))
       refine cnT rfl ?_
       simp only [std_wrp,std_zadd,wrap1 hi' (by omega)]
     | some q =>
       rw [hf] at e
       refine .inr ⟨.inr (mp',eInts q.2,cellT c u (stepM c u mks t.toNat m)),⟨mp',q,cellT c u (stepM c u mks t.toNat m),hg',by rw [hfm,hf],rfl⟩,?_⟩
       unfold Z36eL0
       refine cnT (by simp;omega) (bt (gt_enc hn) (bt e83 (bt (Z84_m mks hmk hv hu hi (by omega) ht) (bt hsl (bt (v:=()) (by simp [ck]) (bt (ap_enc1 (c:=cI .i64) rfl (by omega)) (bt e ?_)))))))
       exact cnF rfl rfl)
    (fun mp _=>by unfold Z36eL0;exact cnF (by simp) rfl) mp ⟨hg,rfl⟩
   rcases key with ⟨mp',⟨hg',hf⟩,e⟩ | ⟨i,x,hi',⟨mp',q,w,hg',hf,rfl⟩,e⟩
   ·rw [List.take_length] at hf
    refine ⟨mp',hg',?_⟩
    unfold Z36eB
    refine bt (Z55a_eq (eCode c) m h2) (bt ee ?_)
    rw [hb]
    refine cnF rfl (bt e ?_)
    rw [he,hf];rfl
   ·have hw:firstB s ((leftM u m).flatMap fun t=>endsS c u mks k' (stepM c u mks t.toNat m) (sch++[t]))=some q:=by
     rw [<-List.take_append_drop (i+1) (leftM u m),List.flatMap_append,firstB_app,hf];rfl
    refine ⟨mp',hg',?_⟩
    unfold Z36eB
    refine bt (Z55a_eq (eCode c) m h2) (bt ee ?_)
    rw [hb]
    refine cnF rfl (bt e ?_)
    rw [he,hw];rfl
theorem Z36eR_ok : ∀ (k j:Nat),k<j->SelfB s c u mks steps k (Z36eR Ar.std j)
 | k,0,h=>by omega
 | k,j+1,h=>visB_ok hs hmk hv hu hs0 k (Z36eR Ar.std j) fun k' hk'=>Z36eR_ok k' j (by omega)
theorem Z36d_ok (k:Nat) (m:Mc) (sch:List Int) (mp:List (D×D)) (out:List D) (hi:MInv c u m) (hT:TInv c u m) (hst:m.st+k=steps) (hsch:(sch.length:Int)<=m.st) (hg:GoodB s mp) :
  ∃ mp',GoodB s mp'/\Z36d Ar.std (eCode c) (eTab u) m.a.cl m.a.ln m.a.r0 m.a.r1 m.a.r2 m.a.r3 m.a.at_ m.b.cl m.b.ln m.b.r0 m.b.r1 m.b.r2 m.b.r3 m.b.at_ m.c0 m.c1 m.c2 m.st steps (eInts mks) (eInts sch) s.1 s.2.1 (eTab s.2.2.1) (eTab s.2.2.2) out mp (eCalls m.h) (eInts m.ms)=some (resO (firstB s (endsS c u mks k m sch)) mp' out):=by
 have h2:=ulen mks hmk hv hu
 have hhs:=hi.st
 have hms:=hi.ms
 have h6:=run6 hv hu hT
 have ee:(bif Ar.std.zeq (Ar.std.len (eInts (leftM u m))) 0 then some true else some (Ar.std.zeq m.st steps):Option Bool)=some (overM u m||decide (m.st=steps)):=by
  unfold overM
  cases hl:leftM u m with
  | nil=>rfl
  | cons t r=>exact cnF (by simp <;> omega) rfl
 cases hb:(overM u m||decide (m.st=steps)) with
 | true =>
   have he:endsS c u mks k m sch=[(m,sch)]:=by
    cases k with
    | zero=>rfl
    | succ k =>
      unfold endsS
      have:overM u m=true:=by
       rw [Bool.or_eq_true,decide_eq_true_eq] at hb
       rcases hb with h | h
       ·exact h
       ·omega
      rw [this,cond_true]
   obtain ⟨mp',hg',e37⟩:=Z37_eq hs h6 hg (eInts sch) out (eCode c) (eTab u) m.a.cl m.a.ln m.a.r0 m.a.r1 m.a.r2 m.a.r3 m.a.at_ m.b.cl m.b.ln m.b.r0 m.b.r1 m.b.r2 m.b.r3 m.b.at_ m.c0 m.c1 m.c2 m.st (eInts m.ms)
   refine ⟨mp',hg',?_⟩
   unfold Z36d
   refine bt (Z55a_eq (eCode c) m h2) (bt ee ?_)
   rw [hb]
   refine cnT rfl (bt e37 ?_)
   rw [he]
   unfold firstB
   simp only [List.find?_cons,List.find?_nil]
   cases linB s m.h <;> rfl
 | false =>
   have hb':=hb
   rw [Bool.or_eq_false_iff,decide_eq_false_iff_not] at hb'
   obtain ⟨k',rfl⟩ : ∃ k',k=k'+1:=⟨k-1,by have:=hb'.2;omega⟩
   have hself:=Z36eR_ok hs hmk hv hu hs0 k' fuel (by unfold fuel;omega)
   have hll:=leftM_len h2 m
   have he:endsS c u mks (k'+1) m sch=(leftM u m).flatMap fun t=>endsS c u mks k' (stepM c u mks t.toNat m) (sch++[t]):=by
    show (bif overM u m then [(m,sch)] else _)=_
    rw [hb'.1,cond_false]
   have key:=iter_relE (step:=Z36dL0 Ar.std (eCode c) (eTab u) m.a.cl m.a.ln m.a.r0 m.a.r1 m.a.r2 m.a.r3 m.a.at_ m.b.cl m.b.ln m.b.r0 m.b.r1 m.b.r2 m.b.r3 m.b.at_ m.c0 m.c1 m.c2 m.st steps (eInts mks) (eInts sch) s.1 s.2.1 (eTab s.2.2.1) (eTab s.2.2.2) (eCalls m.h) (eInts m.ms) (eInts (leftM u m))) (leftM u m).length
    (fun (mp:List (D×D)) (i:Nat)=>((i:Int),out,mp)) (fun i mp=>GoodB s mp/\firstB s (((leftM u m).take i).flatMap fun t=>endsS c u mks k' (stepM c u mks t.toNat m) (sch++[t]))=none)
    (fun i x => ∃ mp' e w,GoodB s mp'/\firstB s (((leftM u m).take (i+1)).flatMap fun t=>endsS c u mks k' (stepM c u mks t.toNat m) (sch++[t]))=some e/\x = .inr (eInts e.2,mp',w))
    (fun mp => .inl (out,mp))
    (fun i mp hi' ⟨hg,hn0⟩=>by
     have hn:=zp1 hi'
     generalize (leftM u m)[i]=t at hn
     have ht:=leftM_has (List.mem_of_getElem? hn)
     have hn1:=minv_next mks hmk hv hu hi ht
     have hsl:sl Ar.std (eInts sch) 0 (Ar.std.len (eInts sch))=some (eInts sch):=by
      rw [len_enc,sl_encT (Nat.le_refl _),List.take_length]
     have e83:Z83 Ar.std (eCode c) (eTab u) m.a.cl m.a.ln m.a.r0 m.a.r1 m.a.r2 m.a.r3 m.a.at_ m.b.cl m.b.ln m.b.r0 m.b.r1 m.b.r2 m.b.r3 m.b.at_ m.c0 m.c1 m.c2 m.st (eCalls m.h) (eInts m.ms)=some (cellT c u m):=by
      unfold Z83
      exact bt (Z117_eq _ (by simp;omega)) (bt (v:=()) (by rw [scalCalls];rfl) (bt (Z39_eq (c:=[]) ⟨by decide,fun r h=>by cases h⟩ (u:=[]) ⟨by decide,fun r h=>by cases h⟩ (sch:=[]) (by decide) _ (by simp;omega)) (bt (v:=()) (by rw [scalInts];rfl) rfl)))
     obtain ⟨mp',hg',e⟩:=hself (stepM c u mks t.toNat m) (sch++[t]) mp out hn1 (tinv_next hmk hv hu hi hT ht) (by show m.st+1+(k':Int)=steps;omega) (by rw [List.length_append];show ((sch.length+1:Nat):Int)<=m.st+1;omega) hg
     have hfm:firstB s (((leftM u m).take (i+1)).flatMap fun t=>endsS c u mks k' (stepM c u mks t.toNat m) (sch++[t]))=firstB s (endsS c u mks k' (stepM c u mks t.toNat m) (sch++[t])):=by
      rw [take_succ_get hn,List.flatMap_append,firstB_app,hn0,Option.none_or]
      simp only [List.flatMap_cons,List.flatMap_nil,List.append_nil]
     cases hf:firstB s (endsS c u mks k' (stepM c u mks t.toNat m) (sch++[t])) with
     | none =>
       rw [hf] at e
       refine .inl ⟨mp',⟨hg',by rw [hfm,hf]⟩,?_⟩
       unfold Z36dL0
       refine cnT (by simp;omega) (bt (gt_enc hn) (bt e83 (bt (Z84_m mks hmk hv hu hi (by omega) ht) (bt hsl (bt (v:=()) (by simp [ck]) (bt (ap_enc1 (c:=cI .i64) rfl (by omega)) (bt e ?_)))))))
       refine cnT rfl ?_
       simp only [std_wrp,std_zadd,wrap1 hi' (by omega)]
     | some q =>
       rw [hf] at e
       refine .inr ⟨.inr (eInts q.2,mp',cellT c u (stepM c u mks t.toNat m)),⟨mp',q,cellT c u (stepM c u mks t.toNat m),hg',by rw [hfm,hf],rfl⟩,?_⟩
       unfold Z36dL0
       refine cnT (by simp;omega) (bt (gt_enc hn) (bt e83 (bt (Z84_m mks hmk hv hu hi (by omega) ht) (bt hsl (bt (v:=()) (by simp [ck]) (bt (ap_enc1 (c:=cI .i64) rfl (by omega)) (bt e ?_)))))))
       exact cnF rfl rfl)
    (fun mp _=>by unfold Z36dL0;exact cnF (by simp) rfl) mp ⟨hg,rfl⟩
   rcases key with ⟨mp',⟨hg',hf⟩,e⟩ | ⟨i,x,hi',⟨mp',q,w,hg',hf,rfl⟩,e⟩
   ·rw [List.take_length] at hf
    refine ⟨mp',hg',?_⟩
    unfold Z36d
    refine bt (Z55a_eq (eCode c) m h2) (bt ee ?_)
    rw [hb]
    refine cnF rfl (bt e ?_)
    rw [he,hf];rfl
   ·have hw:firstB s ((leftM u m).flatMap fun t=>endsS c u mks k' (stepM c u mks t.toNat m) (sch++[t]))=some q:=by
     rw [<-List.take_append_drop (i+1) (leftM u m),List.flatMap_append,firstB_app,hf];rfl
    refine ⟨mp',hg',?_⟩
    unfold Z36d
    refine bt (Z55a_eq (eCode c) m h2) (bt ee ?_)
    rw [hb]
    refine cnF rfl (bt e ?_)
    rw [he,hw];rfl
end
def brkR (s:Spec) (c:Code) (u:Tab) (steps:Int):List Int×Int :=
 bif decide (specE s c u=0) then (bif btw 0 steps 12 then (match firstB s (endsS c u [] steps.toNat mc0 []) with | none=>([],5) | some e=>(e.2,0)) else ([],2)) else ([],specE s c u)
def sndR (s:Spec) (c:Code) (u:Tab) (steps:Int):Bool×Int:=bif decide ((brkR s c u steps).2=5) then (true,0) else (false,(brkR s c u steps).2)
theorem endsS_sch {c:Code} {u:Tab} {mks:List Int} : ∀ (k:Nat) (m:Mc) (sch:List Int),∀ e∈endsS c u mks k m sch,e.2.length<=sch.length+k
 | 0,m,sch,e,he=>by unfold endsS at he;rw [List.mem_singleton] at he;subst he;exact Nat.le_refl _
 | k+1,m,sch,e,he=>by
   unfold endsS at he
   cases ho:overM u m with
   | true=>rw [ho,cond_true,List.mem_singleton] at he;subst he;show sch.length<=_;omega
   | false =>
     rw [ho,cond_false] at he
     obtain ⟨t,_,h2⟩:=List.mem_flatMap.1 he
     have:=endsS_sch k _ _ e h2
     rw [List.length_append,List.length_singleton] at this
     omega
section
variable {s:Spec} (hs:TabOk s.2.2.1/\TabOk s.2.2.2) {c:Code} (hc:CodeOk c) {u:Tab} (hut:TabOk u)
include hs hc hut
theorem Z11_eq (steps:Int):Z11 Ar.std s.1 s.2.1 (eTab s.2.2.1) (eTab s.2.2.2) (eCode c) (eTab u) steps=some (eInts (brkR s c u steps).1,(brkR s c u steps).2):=by
 unfold Z11 brkR
 refine bt (Z33_eq s hs c hc u hut) ?_
 by_cases he:specE s c u=0
 ·obtain ⟨hv,hk,ho,hu⟩:=specE_all he
  rw [decide_eq_true he,cond_true]
  have e34:Z34 Ar.std steps=some (btw 0 steps 12):=by unfold Z34;exact bt (Z82_eq _ _ _) rfl
  refine cnT (by simp [he]) (bt e34 ?_)
  cases hb:btw 0 steps 12 with
  | false=>exact cnF rfl rfl
  | true =>
    have hb':=(btw_true _ _ _).1 hb
    obtain ⟨k,rfl⟩:=zp9 hb'.1
    obtain ⟨mp',hg',e⟩:=Z36d_ok (mks:=[]) hs (.inl rfl) hv hu hb'.2 k mc0 [] [] [] (minv0 c u) (tinv0 c u) (by simp [mc0]) (by simp [mc0]) (GoodB.nil s)
    refine cnT rfl (bt (v:=(eCode c,eTab u)) rfl (bt e ?_))
    rw [cond_true,Int.toNat_natCast]
    cases hf:firstB s (endsS c u [] k mc0 []) with
    | none=>rfl
    | some q =>
      have hq:q∈endsS c u [] k mc0 []:=List.mem_of_find?_eq_some hf
      have hl:=endsS_sch k mc0 [] q hq
      refine cnF rfl (bt (Z39_eq (c:=[]) ⟨by decide,fun r h=>by cases h⟩ (u:=[]) ⟨by decide,fun r h=>by cases h⟩ (sch:=[]) (by decide) _ (by simp at hl ⊢;omega)) rfl)
 ·rw [decide_eq_false he,cond_false]
  exact cnF (by simp [he]) rfl
theorem Z10_eq (steps:Int):Z10 Ar.std s.1 s.2.1 (eTab s.2.2.1) (eTab s.2.2.2) (eCode c) (eTab u) steps=some (sndR s c u steps):=by
 unfold Z10 sndR
 refine bt (Z11_eq hs hc hut steps) ?_
 by_cases h:(brkR s c u steps).2=5
 ·rw [decide_eq_true h];exact cnT (decide_eq_true h) rfl
 ·rw [decide_eq_false h];exact cnF (decide_eq_false h) rfl
theorem brk_len (steps:Int):(brkR s c u steps).1.length<Lg:=by
 unfold brkR
 cases decide (specE s c u=0) with
 | false=>show 0<Lg;decide
 | true =>
   cases hb:btw 0 steps 12 with
   | false=>show 0<Lg;decide
   | true =>
     have hb':=(btw_true _ _ _).1 hb
     rw [cond_true,cond_true]
     cases hf:firstB s (endsS c u [] steps.toNat mc0 []) with
     | none=>show 0<Lg;decide
     | some q =>
       have hl:=endsS_sch steps.toNat mc0 [] q (List.mem_of_find?_eq_some hf)
       refine Nat.lt_of_le_of_lt hl ?_
       refine Nat.lt_of_le_of_lt (m:=12) (by simp;omega) (by decide)
theorem Z20_eq (steps:Int):Z20 Ar.std s.1 s.2.1 (eTab s.2.2.1) (eTab s.2.2.2) (eCode c) (eTab u) steps=some (eInts (brkR s c u steps).1,(brkR s c u steps).2):=by
 unfold Z20 brkR
 refine bt (Z60_eq hs c hc u hut) ?_
 by_cases he:specE s c u=0
 ·obtain ⟨hv,hk,ho,hu⟩:=specE_all he
  rw [decide_eq_true he,cond_true,he]
  have hce:codeE c u=0:=specE_0 he
  have e61:Z61 Ar.std (eCode c) (eTab u) steps=some (bif btw 0 steps 12 then 0 else 2):=by
   unfold Z61
   refine bt (Z67_eq c hc u hut) ?_
   rw [hce]
   refine bt (v := !btw 0 steps 12) (cnT rfl (bt (Z77_eq _ _ _) rfl)) ?_
   cases btw 0 steps 12 <;> rfl
  refine bt (v:=bif btw 0 steps 12 then 0 else 2) (cnT rfl (bt e61 rfl)) ?_
  cases hb:btw 0 steps 12 with
  | false=>exact cnF rfl rfl
  | true =>
    have hb':=(btw_true _ _ _).1 hb
    obtain ⟨k,rfl⟩:=zp9 hb'.1
    rw [Int.toNat_natCast]
    obtain ⟨L,e62,hL,hE⟩:=Z62_okS (mks:=[]) (.inl rfl) hv hu k (by omega)
    have h2:=ulen [] (.inl rfl) hv hu
    have hp:2 ^ k<=2 ^ 12:=Nat.pow_le_pow_right (by omega) (by omega)
    have hlen:L.length<=100000:=by
     have:=endsR_len (c:=c) (u:=u) (mks:=[]) h2 k mc0
     rw [<-endsS_fst c u [] k mc0 [],<-hL,List.length_map,List.length_map] at this
     exact Nat.le_trans this (Nat.le_trans hp (by decide))
    have hle:(eEnds c u [] L).length=L.length:=by unfold eEnds enc;rw [List.length_map,List.length_map]
    have e:=iter_list0 (step:=Z20L0 Ar.std s.1 s.2.1 (eTab s.2.2.1) (eTab s.2.2.2) (eEnds c u [] L)) L (fun (_:Unit) (i:Nat)=>(i:Int)) (fun _ e=>bif linB s e.1.h then .inl () else .inr (.inr (eInts e.2.2))) (fun _ => .inl ()) (fun i e _ hn hi=>by
     have hx:=hE e (List.mem_of_getElem? hn)
     have h6:=run6 hv hu hx.t
     unfold Z20L0
     refine cnT (by show decide _=true;rw [decide_eq_true_eq];show (i:Int)<((eEnds c u [] L).length:Int);omega) (bt (gt_enc_map (c:=cEnd) hn) ?_)
     dsimp only [tupE]
     refine bt (Z63_eq hs _ (Nat.lt_of_le_of_lt h6.1 (by decide))) ?_
     cases linB s e.1.h with
     | true =>
       refine cnT rfl ?_
       simp only [std_wrp,std_zadd,wrap1 (i:=i) (n:=200000) (by omega) (by decide)];rfl
     | false=>exact cnF rfl rfl) (fun _=>by
     unfold Z20L0
     exact cnF (by show decide _=false;rw [decide_eq_false_iff_not];show ¬ (L.length:Int)<((eEnds c u [] L).length:Int);omega) rfl) ()
    refine cnT rfl (bt e62 (bt e ?_))
    rw [<-hL]
    have key : ∀ L:List Ent,Sum.elim (fun _:Unit=>some (([]:List D),(5:Int))) (fun v:List D=>some (v,(0:Int))) (foldE (fun (_:Unit) (e:Ent)=>bif linB s e.1.h then (.inl ():Unit⊕(Unit⊕List D)) else .inr (.inr (eInts e.2.2))) (fun _ => .inl ()) L ())
      = some (eInts (match firstB s (L.map eMS) with | none=>(([]:List Int),(5:Int)) | some e=>(e.2,0)).1,(match firstB s (L.map eMS) with | none=>(([]:List Int),(5:Int)) | some e=>(e.2,0)).2):=by
     intro L
     induction L with
     | nil=>rfl
     | cons e r ih =>
       rw [foldE_cons,List.map_cons]
       unfold firstB at ih ⊢
       simp only [List.find?_cons]
       rw [show (eMS e).fst.h=e.1.h from rfl]
       cases hl:linB s e.1.h with
       | true=>exact ih
       | false=>rfl
    exact key L
 ·rw [decide_eq_false he,cond_false]
  refine bt (v:=specE s c u) (cnF (by simp [he]) rfl) (cnF (by simp [he]) rfl)
theorem Z19_eq (steps:Int):Z19 Ar.std s.1 s.2.1 (eTab s.2.2.1) (eTab s.2.2.2) (eCode c) (eTab u) steps=some (sndR s c u steps):=by
 unfold Z19 sndR
 refine bt (Z20_eq hs hc hut steps) ?_
 by_cases h:(brkR s c u steps).2=5
 ·rw [decide_eq_true h];exact cnT (decide_eq_true h) rfl
 ·rw [decide_eq_false h];exact cnF (decide_eq_false h) rfl
end
theorem Z4_ok (s:Spec) (hs:TabOk s.2.2.1/\TabOk s.2.2.2) (c:Code) (hc:CodeOk c) (u:Tab) (hu:TabOk u) (steps:Int) :
  Z4 Ar.std s.1 s.2.1 (eTab s.2.2.1) (eTab s.2.2.2) (eCode c) (eTab u) steps=some true:=by
 unfold Z4
 refine bt (Z18_eq s hs c hc u hu) ?_
 cases largeX s c u with
 | true=>exact cnT rfl (bt Z9_eq rfl)
 | false =>
   refine cnF rfl (bt (Z10_eq hs hc hu steps) (bt (Z19_eq hs hc hu steps) (bt (Z11_eq hs hc hu steps) (bt (Z20_eq hs hc hu steps) (bt (v:=true) ?_ rfl)))))
   exact cnT (by simp) (cnT (by simp) (bt (Z21_same _ (brk_len hs hc hu steps)) (cnT rfl (cnT (by simp) (bt Z9_eq rfl)))))
end Go.Am
