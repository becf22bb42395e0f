/- Own text: ZL33. -/
import Derived.Test.YtkjeamngjnfpkaaGreatZL18
import Derived.Test.YtkjeamngjnfpkaaGreatZH12
set_option maxRecDepth 100000
set_option maxHeartbeats 2000000
set_option linter.unusedVariables false
set_option linter.unusedSimpArgs false
set_option linter.unusedSectionVars false
namespace Go.Am
open Go
def goF (s:Spec):List Int→Int×List Int→Int×List Int
 | [],p=>p
 | o::r,p=>goF s r (nx s.2.2.1 p.1 o,p.2++[nx s.2.2.2 p.1 o])
theorem goF_app (s:Spec) : ∀ (a b:List Int) (p:Int×List Int),goF s (a++b) p=goF s b (goF s a p)
 | [],_,_=>rfl
 | _::a,b,p=>goF_app s a b _
section
variable {s:Spec} (hs:TabOk s.2.2.1∧TabOk s.2.2.2) (hk:specOk s=true)
include hs hk
theorem spec_b:(1≤s.1∧s.1≤8)∧(1≤s.2.1∧s.2.1≤4):=⟨((specOk_iff s).1 hk).1,((specOk_iff s).1 hk).2.1⟩
theorem Z158c_eq (r:List Int) (hr:r.length<Lg) (t u:List D):Z158c Ar.std (eInts r) s.1 s.2.1 t u=some (r.any fun n => !btw 0 n (s.1-1)):=by
 have hb:=spec_b hs hk
 have hw:IntKind.i64.wrap (s.1-1)=s.1-1:=i64w _ (by omega) (by omega)
 have e:iter (Z189cL0 Ar.std (eInts r) s.1 s.2.1 t u) 0=some ((r.findIdx? fun n => !btw 0 n (s.1-1)).elim (.inl ()) (fun i => .inr (i:Int))):=by
  refine iter_find r _ _ _ (fun i n hn hi => ?_) ?_
  ·simp [Z189cL0,Z180,Z115_eq,gt_enc hn,hi,wrap1 hi hr,hw]
  ·simp [Z189cL0]
 simp only [Z158c,Z189c,e,bsome,find_elim,std_zle,find_le]
theorem Z158d_eq (r:List Int) (hr:r.length<Lg) (t u:List D):Z158d Ar.std (eInts r) s.1 s.2.1 t u=some (r.any fun n => !btw 0 n (s.2.1-1)):=by
 have hb:=spec_b hs hk
 have hw:IntKind.i64.wrap (s.2.1-1)=s.2.1-1:=i64w _ (by omega) (by omega)
 have e:iter (Z189dL0 Ar.std (eInts r) s.1 s.2.1 t u) 0=some ((r.findIdx? fun n => !btw 0 n (s.2.1-1)).elim (.inl ()) (fun i => .inr (i:Int))):=by
  refine iter_find r _ _ _ (fun i n hn hi => ?_) ?_
  ·simp [Z189dL0,Z197,Z115_eq,gt_enc hn,hi,wrap1 hi hr,hw]
  ·simp [Z189dL0]
 simp only [Z158d,Z189d,e,bsome,find_elim,std_zle,find_le]
theorem goF_loop (w:List Int) (hl:w.length≤20) (hi : ∀ o∈w,0≤o∧o<s.2.1) :
  iter (Z147L0 Ar.std (eTab s.2.2.1) (eTab s.2.2.2) (eInts w)) (0,[],0)=some ((goF s w (0,[])).1,eInts (goF s w (0,[])).2):=by
 have hb:=spec_b hs hk
 obtain ⟨_,_,ht1,ht2⟩:=(specOk_iff s).1 hk
 obtain ⟨p,⟨hp,_⟩,e⟩:=iter_rel (step:=Z147L0 Ar.std (eTab s.2.2.1) (eTab s.2.2.2) (eInts w)) w.length (fun (p:Int×List Int) (i:Nat)=>(p.1,eInts p.2,(i:Int)))
  (fun i p=>p=goF s (w.take i) (0,[])∧(0≤p.1∧p.1<s.1)∧p.2.length=i) (fun p=>(p.1,eInts p.2))
  (fun i p hi' ⟨hR,hb1,hn⟩=>by
   have hx:=List.getElem?_eq_getElem hi'
   have ho:=hi _ (List.getElem_mem hi')
   generalize w[i]=o at hx ho
   obtain ⟨r1,a1,a2,a3,a4⟩:=tab_get ht1 hb1.1 hb1.2 ho.1 ho.2
   obtain ⟨r2,b1,b2,_,_⟩:=tab_get ht2 hb1.1 hb1.2 ho.1 ho.2
   refine ⟨(nx s.2.2.1 p.1 o,p.2++[nx s.2.2.2 p.1 o]),⟨?_,⟨a3,by show nx s.2.2.1 p.1 o<s.1;omega⟩,by simp [hn]⟩,?_⟩
   ·rw [take_succ_get hx,goF_app,←hR];rfl
   ·unfold Z147L0
    refine cnT (by simp;omega) (bt (gt_enc hx) (bt (gt_eTabI hb1.1 b1) (bt (gt_encI ho.1 b2) (bt (ap_enc1 (c:=cI .i64) rfl (by omega)) (bt (gt_eTabI hb1.1 a1) (bt (gt_encI ho.1 a2) ?_))))))
    simp only [std_wrp,std_zadd,wrap1 (i:=i) (n:=200) (by omega) (by decide)])
  (fun p _=>by unfold Z147L0;exact cnF (by simp) rfl) (0,[]) ⟨rfl,⟨Int.le_refl _,by show (0:Int)<s.1;omega⟩,rfl⟩
 rw [List.take_length] at hp
 subst hp
 exact e
theorem Z98_eq (w:List Int) (hl:w.length≤20) (hi : ∀ o∈w,0≤o∧o<s.2.1) :
  Z98 Ar.std s.1 s.2.1 (eTab s.2.2.1) (eTab s.2.2.2) 0 (eInts w)=some (eInts (goF s w (0,[])).2,(goF s w (0,[])).1,0):=by
 have hb:=spec_b hs hk
 have e1:Z145 Ar.std s.1 s.2.1 (eTab s.2.2.1) (eTab s.2.2.2) (eInts [0])=some true:=by
  unfold Z145
  refine bt (Z158c_eq hs hk [0] (by decide) _ _) ?_
  simp [btw];omega
 have hl':w.length<Lg:=Nat.lt_of_le_of_lt hl (by decide)
 have e2:Z146 Ar.std s.1 s.2.1 (eTab s.2.2.1) (eTab s.2.2.2) (eInts w)=some true:=by
  unfold Z146
  refine bt (v:=true) ?_ rfl
  refine cnT (by simp;omega) (bt (v:=true) ?_ rfl)
  unfold Z181
  refine bt (Z158d_eq hs hk w hl' _ _) ?_
  have:(w.any fun n => !btw 0 n (s.2.1-1))=false:=by
   rw [List.any_eq_false]
   intro o ho
   have:=hi o ho
   rw [(btw_true _ _ _).2 (by omega)];simp
  rw [this];rfl
 have e3:Z143 Ar.std s.1 s.2.1 (eTab s.2.2.1) (eTab s.2.2.2) 0 (eInts w)=some (s.1,s.2.1,eTab s.2.2.1,eTab s.2.2.2,0):=by
  unfold Z143
  refine bt (Z81_eq s hs.1 hs.2) ?_
  rw [hk]
  refine cnT rfl (bt (v:=true) ?_ rfl)
  unfold Z144
  exact bt (v:=true) (bt e1 (cnT rfl (bt e2 rfl))) rfl
 unfold Z98
 refine bt e3 ?_
 refine cnT rfl (bt (v:=(eInts (goF s w (0,[])).2,(goF s w (0,[])).1)) ?_ rfl)
 unfold Z147
 exact bt (goF_loop hs hk w hl hi) rfl
end
theorem Z99_eq (a b:List Int) (hl:a.length<Lg):Z99 Ar.std (eInts a) (eInts b)=some (decide (a=b)):=by
 unfold Z99
 by_cases hn:a.length=b.length
 ·refine cnT (by simp [hn]) ?_
  have e:=iter_rng (step:=Z99L0 Ar.std (eInts a) (eInts b)) a.length (fun i => !decide (a[i]?=b[i]?)) (.inr ()) (.inl ()) (fun i hi=>by
   have h1:=List.getElem?_eq_getElem hi
   have h2:=List.getElem?_eq_getElem (show i<b.length by omega)
   unfold Z99L0
   refine cnT (by simp;omega) (bt (gt_enc h1) (bt (gt_enc h2) ?_))
   rw [h1,h2]
   cases hd:decide (a[i]=b[i]) with
   | true=>refine cnT hd ?_;simp only [std_wrp,std_zadd,wrap1 hi hl];simp [of_decide_eq_true hd]
   | false=>refine cnF hd ?_;simp [of_decide_eq_false hd]) (by unfold Z99L0;exact cnF (by simp) rfl)
  refine bt e ?_
  cases hb:(List.range a.length).any fun i => !decide (a[i]?=b[i]?) with
  | true =>
    obtain ⟨i,_,h⟩:=List.any_eq_true.1 hb
    have : ¬ a=b:=fun h'=>by subst h';simp at h
    rw [decide_eq_false this];rfl
  | false =>
    have:a=b:=by
     refine List.ext_getElem? fun i => ?_
     rcases Nat.lt_or_ge i a.length with h | h
     ·have:=(List.any_eq_false.1 hb) i (List.mem_range.2 h)
      simpa using this
     ·rw [List.getElem?_eq_none h,List.getElem?_eq_none (by omega)]
    rw [decide_eq_true this];rfl
 ·refine cnF (by simp;omega) ?_
  rw [decide_eq_false (fun h=>hn (by rw [h]))]
def opAt (h:List Call) (i:Nat):Int:=(h.getD i (0,0,0,0,0,0)).op
def saAt (h:List Call) (i:Nat):Int:=(h.getD i (0,0,0,0,0,0)).sa
def alwB (s:Spec) (h:List Call) (l:List Nat):Bool:=decide ((goF s (l.map (opAt h)) (0,[])).2=l.map (saAt h))
theorem Z57_eq {s:Spec} (hs:TabOk s.2.2.1∧TabOk s.2.2.2) (hk:specOk s=true) (h:List Call) (l:List Nat) (hl:l.length≤20) (hlt : ∀ i∈l,i<h.length) (hop : ∀ x∈h,0≤x.op∧x.op<s.2.1) :
  Z57 Ar.std s.1 s.2.1 (eTab s.2.2.1) (eTab s.2.2.2) (eCalls h) (eInts (cN' l))=some (alwB s h l):=by
 have hln:(cN' l).length=l.length:=by unfold cN';rw [List.length_map]
 obtain ⟨p,hp,e⟩:=iter_rel (step:=Z57L0 Ar.std (eCalls h) (eInts (cN' l))) l.length (fun (p:List Int×List Int) (i:Nat)=>(eInts p.1,eInts p.2,(i:Int)))
  (fun i p=>p=((l.take i).map (opAt h),(l.take i).map (saAt h))) (fun p=>(eInts p.1,eInts p.2))
  (fun i p hi hR=>by
   have hx:=List.getElem?_eq_getElem hi
   have hj:=hlt _ (List.getElem_mem hi)
   generalize l[i]=j at hx hj
   have hx':(cN' l)[i]?=some (j:Int):=by unfold cN';rw [List.getElem?_map,hx];rfl
   have hc:=List.getElem?_eq_getElem hj
   have e1:opAt h j=h[j].op:=by unfold opAt;rw [getD_get hc]
   have e2:saAt h j=h[j].sa:=by unfold saAt;rw [getD_get hc]
   refine ⟨(p.1++[h[j].op],p.2++[h[j].sa]),?_,?_⟩
   ·rw [hR,take_succ_get hx,List.map_append,List.map_append,←e1,←e2];rfl
   ·have b1:p.1.length≤20:=by rw [hR,List.length_map,List.length_take];omega
    have b2:p.2.length≤20:=by rw [hR,List.length_map,List.length_take];omega
    unfold Z57L0
    refine cnT (by rw [len_enc,hln];simp;omega) (bt (gt_enc hx') (bt (gt_enc hc) (bt (ap_enc1 (c:=cI .i64) rfl (by omega)) (bt (ap_enc1 (c:=cI .i64) rfl (by omega)) ?_))))
    simp only [std_wrp,std_zadd,wrap1 (i:=i) (n:=200) (by omega) (by decide)]
    rfl)
  (fun p _=>by unfold Z57L0;exact cnF (by rw [len_enc,hln];simp) rfl) ([],[]) rfl
 rw [List.take_length] at hp
 subst hp
 unfold Z57
 refine bt e ?_
 have hw:(l.map (opAt h)).length≤20:=by rw [List.length_map];exact hl
 refine bt (Z98_eq hs hk (l.map (opAt h)) hw (fun o ho=>by
  obtain ⟨i,hi,rfl⟩:=List.mem_map.1 ho
  have:=hlt i hi
  unfold opAt
  rw [getD_get (List.getElem?_eq_getElem this)]
  exact hop _ (List.getElem_mem this))) ?_
 refine bt (v:=alwB s h l) ?_ rfl
 refine cnT rfl (bt (Z99_eq _ _ ?_) rfl)
 have : ∀ (w:List Int) (p:Int×List Int),(goF s w p).2.length=p.2.length+w.length:=by
  intro w
  induction w with
  | nil=>intro p;rfl
  | cons o r ih=>intro p;show (goF s r _).2.length=_;rw [ih,List.length_append,List.length_cons];simp;omega
 rw [this]
 exact Nat.lt_of_le_of_lt (by simpa using hw) (by decide:20<Lg)
def visB (s:Spec) (u:Tab) (m:Mc):Bool:=bif overM u m then (bif ordOk u m then alwB s m.h (ordN m) else false) else true
theorem Z54_eq {s:Spec} (hs:TabOk s.2.2.1∧TabOk s.2.2.2) (hk:specOk s=true) {u:Tab} {m:Mc} (hI:MkI m) (hl:m.ms.length=m.h.length) (hst:m.st≤100) (h2:u.length≤2) (hh:m.h.length≤20) (hop : ∀ x∈m.h,0≤x.op∧x.op<s.2.1) (x1 x23:List D) :
  Z54 Ar.std x1 (eTab u) m.a.cl m.a.ln m.a.r0 m.a.r1 m.a.r2 m.a.r3 m.a.at_ m.b.cl m.b.ln m.b.r0 m.b.r1 m.b.r2 m.b.r3 m.b.at_ m.c0 m.c1 m.c2 m.st (eCalls m.h) (eInts m.ms) x23 s.1 s.2.1 (eTab s.2.2.1) (eTab s.2.2.2)=some (visB s u m):=by
 unfold Z54 visB
 refine bt (Z55_eq x1 m h2) ?_
 unfold overM
 cases hl2:leftM u m with
 | cons t r=>exact cnT (by simp <;> omega) rfl
 | nil =>
   refine cnF (by simp) (bt (Z56_eq hI hl hst h2 (by omega) x1) ?_)
   cases hok:ordOk u m with
   | false=>rfl
   | true =>
     have hlen:(ordN m).length≤20:=by
      have hz:zeroM m=false:=by
       unfold ordOk at hok
       rw [Bool.and_eq_true] at hok
       simpa using hok.2
      have:=(ordN_perm hI hl hz).length_eq
      rw [List.length_range] at this
      omega
     refine bt (v:=alwB s m.h (ordN m)) (cnT rfl (bt (Z57_eq hs hk m.h (ordN m) hlen (fun i hi=>((mem_ordN hI hl).1 hi).1) hop) rfl)) rfl
end Go.Am

set_option maxRecDepth 100000
set_option maxHeartbeats 2000000
set_option linter.unusedVariables false
set_option linter.unusedSimpArgs false
set_option linter.unusedSectionVars false
namespace Go.Am
open Go
theorem Z94b_rfl:Z94b=Z94:=rfl
theorem Z55a_eq {u:Tab} (x1:List D) (m:Mc) (h2:u.length≤2):Z55a Ar.std x1 (eTab u) m.a.cl m.a.ln m.a.r0 m.a.r1 m.a.r2 m.a.r3 m.a.at_ m.b.cl m.b.ln m.b.r0 m.b.r1 m.b.r2 m.b.r3 m.b.at_ m.c0 m.c1 m.c2 m.st (eCalls m.h) (eInts m.ms)=some (eInts (leftM u m)):=by
 unfold Z55a
 refine bt (left_it (n:=u.length) h2 (fun t=>hasM u t m) id (fun i o hi ho => ?_) (fun o => ?_)) rfl
 ·unfold Z55aL0
  rw [Z94b_rfl]
  refine cnT (by simp;omega) (bt (Z94_m x1 h2 (i:Int)) (bt (v:=eInts (bif hasM u (i:Int) m then o++[(i:Int)] else o)) ?_ ?_))
  ·cases hasM u (i:Int) m with
   | false=>rfl
   | true=>exact cnT rfl (bt (ap_enc1 (c:=cI .i64) rfl (by omega)) rfl)
  ·simp only [std_wrp,std_zadd,wrap1 hi (by omega)]
 ·unfold Z55aL0
  exact cnF (by simp) rfl
theorem leftM_len {u:Tab} (h2:u.length≤2) (m:Mc):(leftM u m).length≤2:=by
 unfold leftM
 rw [List.length_map]
 refine Nat.le_trans (List.length_filter_le _ _) ?_
 rw [List.length_range'];exact h2
theorem Z117_eq (l:List D) (h:l.length<4294967296):Z117 Ar.std l=some l:=by
 have e:ap Ar.std [] l=some l:=by simpa using ap_std (l:=[]) (m:=l) (by simpa using (by omega:(l.length:Int)<4294967296))
 unfold Z117
 cases l with
 | nil=>exact cnF rfl (by rw [e];exact both_self _)
 | cons x r=>exact cnT (by simp <;> omega) (by rw [e];rfl)
theorem scalInts (h:List Int):scalars (eInts h)=true:=by
 simp only [scalars,eInts,enc,List.all_map,List.all_eq_true]
 intro x _;rfl
def endsR (c:Code) (u:Tab) (mks:List Int):Nat→Mc→List Mc
 | 0,m=>[m]
 | k+1,m=>bif overM u m then [m] else (leftM u m).flatMap fun t=>endsR c u mks k (stepM c u mks t.toNat m)
theorem foldE_all {α X:Type} (p:α→Bool) (g:α→X) (G:X→Option Bool) (hG : ∀ a,G (g a)=some false) : ∀ l:List α,
  Sum.elim (fun _:Unit=>some true) G (foldE (fun (_:Unit) a=>bif p a then .inl () else .inr (.inr (g a))) (fun _=>(.inl ():Unit⊕X)) l ())=some (l.all p)
 | []=>rfl
 | a::r=>by
   rw [foldE_cons,List.all_cons]
   cases p a with
   | true=>exact foldE_all p g G hG r
   | false=>exact hG a
abbrev CellV:=List D→List D→Int→Int→Int→Int→Int→Int→Int→Int→Int→Int→Int→Int→Int→Int→Int→Int→Int→Int→List D→List D→Int→List D→List D→Int→Int→List D→List D→Option Bool
section
variable {s:Spec} (hs:TabOk s.2.2.1∧TabOk s.2.2.2) (hk:specOk s=true) {c:Code} {u:Tab} {mks:List Int} (hmk:MkOk c mks) (hv:vCode c=true) (hu:vUse c u=true) (ho:s.2.1=(c.length:Int))
def SelfV (s:Spec) (c:Code) (u:Tab) (mks:List Int) (k:Nat) (slf:CellV):Prop :=
 ∀ (m:Mc) (sch:List Int),MInv c u m→TInv c u m→MkI m→m.st+k=12→(sch.length:Int)≤m.st →
   slf (eCode c) (eTab u) m.a.cl m.a.ln m.a.r0 m.a.r1 m.a.r2 m.a.r3 m.a.at_ m.b.cl m.b.ln m.b.r0 m.b.r1 m.b.r2 m.b.r3 m.b.at_ m.c0 m.c1 m.c2 m.st (eCalls m.h) (eInts m.ms) 12 (eInts mks) (eInts sch) s.1 s.2.1 (eTab s.2.2.1) (eTab s.2.2.2)=some ((endsR c u mks k m).all (visB s u))
include hmk hv hu in
theorem tinv_next {m:Mc} (hi:MInv c u m) (hT:TInv c u m) {t:Int} (ht:hasM u t m=true):TInv c u (stepM c u mks t.toNat m):=by
 obtain ⟨h2,⟨g⟩⟩:=go1 hv hu hi (t:=t.toNat) (by
  have h0:0≤t:=by simp only [hasM,Bool.and_eq_true,btw_true] at ht;omega
  rw [Int.toNat_of_nonneg h0];exact ht)
 have T:=(tinv_step hi hT h2 g).1
 exact ⟨T.one,T.two,T.ops,T.le,T.st0⟩
include hs hk hmk hv hu ho
theorem visV_ok (k:Nat) (slf:CellV) (hself : ∀ k',k=k'+1→SelfV s c u mks k' slf):SelfV s c u mks k (Z36aB Ar.std slf):=by
 intro m sch hi hT hM hst hsch
 have h2:=ulen mks hmk hv hu
 have hhs:=hi.st
 have hms:=hi.ms
 have hst0:=hT.st0
 have hop : ∀ x∈m.h,0≤x.op∧x.op<s.2.1:=fun x hx=>by
  obtain ⟨_,_,h3,_⟩:=hT.one x hx
  rw [ho];exact h3
 unfold Z36aB
 refine bt (Z55a_eq (eCode c) m h2) ?_
 refine bt (v:=overM u m||decide (m.st=12)) ?_ ?_
 ·unfold overM
  cases hl:leftM u m with
  | nil=>rfl
  | cons t r=>exact cnF (by simp <;> omega) rfl
 ·cases hb:(overM u m||decide (m.st=12)) with
  | true =>
    have he:endsR c u mks k m=[m]:=by
     cases k with
     | zero=>rfl
     | succ k =>
       unfold endsR
       have:overM u m=true:=by
        rw [Bool.or_eq_true,decide_eq_true_eq] at hb
        rcases hb with h | h
        ·exact h
        ·omega
       rw [this,cond_true]
    rw [he]
    refine cnT rfl (bt (Z54_eq hs hk hM hms (by omega) h2 (by omega) hop _ _) ?_)
    simp
  | false =>
    rw [Bool.or_eq_false_iff,decide_eq_false_iff_not] at hb
    obtain ⟨k',rfl⟩ : ∃ k',k=k'+1:=⟨k-1,by have:=hb.2;omega⟩
    have hself:=hself k' rfl
    have hll:=leftM_len h2 m
    refine cnF rfl ?_
    have he:endsR c u mks (k'+1) m=(leftM u m).flatMap fun t=>endsR c u mks k' (stepM c u mks t.toNat m):=by
     show (bif overM u m then [m] else _)=_
     rw [hb.1,cond_false]
    rw [he,List.all_flatMap]
    refine bt (iter_list0 (leftM u m) (fun (_:Unit) (i:Nat)=>(i:Int)) (fun _ t=>bif (endsR c u mks k' (stepM c u mks t.toNat m)).all (visB s u) then .inl () else .inr (.inr (eCode c,eTab u,(stepM c u mks t.toNat m).a.cl,(stepM c u mks t.toNat m).a.ln,(stepM c u mks t.toNat m).a.r0,(stepM c u mks t.toNat m).a.r1,(stepM c u mks t.toNat m).a.r2,(stepM c u mks t.toNat m).a.r3,(stepM c u mks t.toNat m).a.at_,(stepM c u mks t.toNat m).b.cl,(stepM c u mks t.toNat m).b.ln,(stepM c u mks t.toNat m).b.r0,(stepM c u mks t.toNat m).b.r1,(stepM c u mks t.toNat m).b.r2,(stepM c u mks t.toNat m).b.r3,(stepM c u mks t.toNat m).b.at_,(stepM c u mks t.toNat m).c0,(stepM c u mks t.toNat m).c1,(stepM c u mks t.toNat m).c2,(stepM c u mks t.toNat m).st,eCalls (stepM c u mks t.toNat m).h,eInts (stepM c u mks t.toNat m).ms))) (fun _ => .inl ()) (fun i t _ hn hlt => ?_) (fun _ => ?_) ()) ?_
    ·have ht:=leftM_has (List.mem_of_getElem? hn)
     have hn1:=minv_next mks hmk hv hu hi ht
     have hsl:sl Ar.std (eInts sch) 0 (Ar.std.len (eInts sch))=some (eInts sch):=by
      rw [len_enc,sl_encT (Nat.le_refl _),List.take_length]
     unfold Z36aL0
     refine cnT (by simp;omega) (bt (gt_enc hn) (bt (v:=(eCode c,eTab u,m.a.cl,m.a.ln,m.a.r0,m.a.r1,m.a.r2,m.a.r3,m.a.at_,m.b.cl,m.b.ln,m.b.r0,m.b.r1,m.b.r2,m.b.r3,m.b.at_,m.c0,m.c1,m.c2,m.st,eCalls m.h,eInts m.ms)) ?_ (bt (Z84_m mks hmk hv hu hi (by omega) ht) (bt hsl (bt (v:=()) (by simp [ck]) (bt (ap_enc1 (c:=cI .i64) rfl (by omega)) (bt (hself (stepM c u mks t.toNat m) (sch++[t]) hn1 (tinv_next hmk hv hu hi hT ht) (mki_step mks hM hst0) (by show m.st+1+(k':Int)=12;omega) (by rw [List.length_append];show ((sch.length+1:Nat):Int)≤m.st+1;omega)) ?_)))))))
     ·unfold Z83
      exact bt (Z117_eq _ (by simp;omega)) (bt (v:=()) (by rw [scalCalls];rfl) (bt (Z39_eq (c:=[]) ⟨by decide,fun r h=>by cases h⟩ (u:=[]) ⟨by decide,fun r h=>by cases h⟩ (sch:=[]) (by decide) _ (by simp;omega)) (bt (v:=()) (by rw [scalInts];rfl) rfl)))
     ·cases (endsR c u mks k' (stepM c u mks t.toNat m)).all (visB s u) with
      | true =>
        refine cnT rfl ?_
        simp only [std_wrp,std_zadd,wrap1 hlt (by omega)];rfl
      | false=>exact cnF rfl rfl
    ·unfold Z36aL0;exact cnF (by simp) rfl
    ·refine foldE_all (fun t:Int=>(endsR c u mks k' (stepM c u mks t.toNat m)).all (visB s u)) _ _ ?_ _
     intro a;rfl
theorem Z36aR_ok : ∀ (k j:Nat),k<j→SelfV s c u mks k (Z36aR Ar.std j)
 | k,0,h=>by omega
 | k,j+1,h=>visV_ok hs hk hmk hv hu ho k (Z36aR Ar.std j) fun k' hk'=>Z36aR_ok k' j (by omega)
theorem Z36_ok:Z36 Ar.std (eCode c) (eTab u) 0 0 0 0 0 0 0 0 0 0 0 0 0 0 0 0 0 0 12 (eInts mks) [] s.1 s.2.1 (eTab s.2.2.1) (eTab s.2.2.2) [] []=some ((endsR c u mks 12 mc0).all (visB s u)) :=
 visV_ok hs hk hmk hv hu ho 12 (Z36a Ar.std) (fun k' hk'=>Z36aR_ok hs hk hmk hv hu ho k' fuel (by unfold fuel;omega)) mc0 [] (minv0 c u) (tinv0 c u) mki0 (by simp [mc0]) (by simp [mc0])
end
end Go.Am

set_option maxRecDepth 100000
set_option maxHeartbeats 2000000
set_option linter.unusedVariables false
set_option linter.unusedSimpArgs false
set_option linter.unusedSectionVars false
namespace Go.Am
open Go
structure TMk (m:Mc):Prop where
 tm : ∀ (i:Nat) (x:Int) (y:Call),m.ms[i]?=some x→m.h[i]?=some y→x≠0→y.fr≤2*x-1∧(y.to=0∨2*x≤y.to)
section
variable {c:Code} {u:Tab} {t:Nat} {m:Mc}
end
section
variable {m:Mc} (hI:MkI m) (hK:TMk m) (hl:m.ms.length=m.h.length) (hz:zeroM m=false)
include hI hK hl hz
end
theorem goF_snd (s:Spec) : ∀ (w:List Int) (p:Int×List Int),(goF s w p).2=p.2++(goF s w (p.1,[])).2
 | [],p=>by simp [goF]
 | o::r,p=>by
   show (goF s r _).2=p.2++(goF s r _).2
   rw [goF_snd s r,goF_snd s r (_,[]++_)]
   simp [List.append_assoc]
section
variable {s:Spec} (hk:specOk s=true) {c:Code} {u:Tab} (hv:vCode c=true) (hu:vUse c u=true) (ho:s.2.1=(c.length:Int)) {m:Mc} (hT:TInv c u m) (hst:m.st≤12)
include hk hv hu ho hT hst
end
end Go.Am

set_option maxRecDepth 100000
set_option maxHeartbeats 2000000
set_option linter.unusedVariables false
set_option linter.unusedSimpArgs false
set_option linter.unusedSectionVars false
namespace Go.Am
open Go
section
variable {c:Code} (hc:CodeOk c) (hv:vCode c=true) {ms:List Int} (hm : ∀ n∈ms,0≤n∧n<256)
include hc hv hm
end
theorem Z16_ok {s:Spec} (hs:TabOk s.2.2.1∧TabOk s.2.2.2) (hk:specOk s=true) {c:Code} (hc:CodeOk c) {u:Tab} (hut:TabOk u) (hv:vCode c=true) (hu:vUse c u=true) (ho:s.2.1=(c.length:Int)) {mks:List Int} (hlm:mks.length<Lg) (hmk:isMk c mks=true) :
  Z16 Ar.std s.1 s.2.1 (eTab s.2.2.1) (eTab s.2.2.2) (eCode c) (eTab u) (eInts mks)=some ((endsR c u mks 12 mc0).all (visB s u),0):=by
 have hsp:specE s c u=0:=by
  unfold specE
  rw [hv,hk,hu,decide_eq_true ho];rfl
 have hmk':MkOk c mks:=by
  unfold isMk at hmk
  rw [Bool.and_eq_true,decide_eq_true_eq] at hmk
  exact .inr hmk.1
 unfold Z16
 refine bt (Z33_eq s hs c hc u hut) ?_
 rw [hsp]
 refine cnT rfl (bt (Z53_eq hc hlm) ?_)
 rw [hmk]
 exact cnT rfl (bt (v:=(eCode c,eTab u)) rfl (bt (Z36_ok hs hk hmk' hv hu ho) rfl))
end Go.Am
