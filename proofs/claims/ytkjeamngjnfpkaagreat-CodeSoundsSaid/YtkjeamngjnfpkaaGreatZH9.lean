/- Own text: ZH9. -/
import Derived.Test.YtkjeamngjnfpkaaGreatZH3
import Derived.Test.YtkjeamngjnfpkaaGreatAmBit
set_option maxRecDepth 100000
set_option linter.unusedVariables false
set_option linter.unusedSimpArgs false
namespace Go.Am
open Go
def spOf (S:List Spec) (c:Call):Spec:=S.getD c.ob.toNat (0,0,[],[])
def nowOf (c:Call) (s:Int×Int):Int:=bif decide (c.ob=0) then s.1 else s.2
def doS (S:List Spec) (c:Call) (s:Int×Int):Int×Int:=bif decide (c.ob=0) then (nx (spOf S c).2.2.1 (nowOf c s) c.op,s.2) else (s.1,nx (spOf S c).2.2.1 (nowOf c s) c.op)
def okS (S:List Spec) (c:Call) (s:Int×Int):Bool:=decide (c.to=0)||decide (nx (spOf S c).2.2.2 (nowOf c s) c.op=c.sa)
def stOk (S:List Spec) (s:Int×Int):Prop:=(∀ x,S[0]?=some x->0<=s.1/\s.1<x.1) /\ ∀ x,S[1]?=some x->0<=s.2/\s.2<x.1
def callIn (S:List Spec) (c:Call):Prop:=(c.ob=0\/c.ob=1) /\ ∃ x,S[c.ob.toNat]?=some x/\specOk x=true/\0<=c.op/\c.op<x.2.1
theorem callIn_now {S:List Spec} {c:Call} (hc:callIn S c) {s:Int×Int} (hs:stOk S s) : ∃ x,S[c.ob.toNat]?=some x/\spOf S c=x/\specOk x=true/\0<=nowOf c s/\nowOf c s<x.1/\0<=c.op/\c.op<x.2.1:=by
 obtain ⟨hob,x,hx,hsx,h1,h2⟩:=hc
 refine ⟨x,hx,by simp [spOf,List.getD_eq_getElem?_getD,hx],hsx,?_⟩
 rcases hob with h | h
 ·have q:=hs.1 x (by rw [h] at hx;exact hx)
  simp only [nowOf,h,decide_true,cond_true];exact ⟨q.1,q.2,h1,h2⟩
 ·have q:=hs.2 x (by rw [h] at hx;exact hx)
  have hz:decide ((1:Int)=0)=false:=rfl
  simp only [nowOf,h,hz,cond_false];exact ⟨q.1,q.2,h1,h2⟩
theorem doS_ok {S:List Spec} {c:Call} (hc:callIn S c) {s:Int×Int} (hs:stOk S s):stOk S (doS S c s):=by
 obtain ⟨x,hx,e,hsx,h1,h2,h3,h4⟩:=callIn_now hc hs
 obtain ⟨_,_,t1,_⟩:=(specOk_iff x).1 hsx
 obtain ⟨r,_,_,g3,g4⟩:=tab_get t1 h1 h2 h3 h4
 unfold doS
 rw [e]
 rcases hc.1 with h | h
 ·simp only [h,decide_true,cond_true]
  refine ⟨fun y hy => ?_,hs.2⟩
  rw [h] at hx
  have:y=x:=by have:=hx.symm.trans (show S[(0:Int).toNat]?=some y from hy);exact (Option.some.inj this).symm
  subst this;exact ⟨g3,by omega⟩
 ·have hz:decide ((1:Int)=0)=false:=rfl
  simp only [h,hz,cond_false]
  refine ⟨hs.1,fun y hy => ?_⟩
  rw [h] at hx
  have:y=x:=by have:=hx.symm.trans (show S[(1:Int).toNat]?=some y from hy);exact (Option.some.inj this).symm
  subst this;exact ⟨g3,by omega⟩
theorem Z108a_eq {S:List Spec} {c:Call} (hc:callIn S c) {s:Int×Int} (hs:stOk S s):Z108a Ar.std s.1 s.2 (eSpecs S) c.1 c.2.1 c.2.2.1 c.2.2.2.1 c.2.2.2.2.1 c.2.2.2.2.2=some ((doS S c s).1,(doS S c s).2,okS S c s):=by
 obtain ⟨x,hx,e,hsx,h1,h2,h3,h4⟩:=callIn_now hc hs
 obtain ⟨_,_,t1,t2⟩:=(specOk_iff x).1 hsx
 obtain ⟨r,g1,g2,g3,g4⟩:=tab_get t1 h1 h2 h3 h4
 obtain ⟨q,k1,k2,k3,k4⟩:=tab_get t2 h1 h2 h3 h4
 have hob:0<=c.2.1:=by rcases hc.1 with h | h <;> simp only [Call.ob] at h <;> omega
 have e1:=gt_eSpecsI (l:=S) hob hx
 have e2:=gt_eTabI h1 g1
 have e3:=gt_encI (c:=cI .i64) (l:=r) h3 g2
 have e4:=gt_eTabI h1 k1
 have e5:=gt_encI (c:=cI .i64) (l:=q) h3 k2
 simp only [Z108a,e1,bsome,std_zeq]
 rcases hc.1 with h | h
 ·simp only [Call.ob] at h
  simp only [nowOf,Call.ob,h,decide_true,cond_true] at e2 e3 e4 e5
  simp only [h,decide_true,cond_true,bsome,e2,e3,e4,e5,cond_some,doS,okS,Call.ob,e,nowOf]
  cases decide (c.2.2.2.2.2=0) <;> simp
 ·simp only [Call.ob] at h
  have hz:decide ((1:Int)=0)=false:=rfl
  simp only [nowOf,Call.ob,h,hz,cond_false] at e2 e3 e4 e5
  simp only [h,hz,decide_true,cond_true,cond_false,bsome,e2,e3,e4,e5,cond_some,doS,okS,Call.ob,e,nowOf]
  cases decide (c.2.2.2.2.2=0) <;> simp
theorem forH_in {S:List Spec} {h:List Call} (ha:areS S=true) (hf:forH S h=true):h.length<=8 /\ ∀ c∈h,callOk c=true/\callIn S c:=by
 simp only [forH,zp4,List.all_eq_true] at hf
 simp only [areS,zp4,btw_true,List.all_eq_true] at ha
 obtain ⟨h1,h2⟩:=validH_ok hf.1
 refine ⟨h1,fun c hc=>⟨h2 c hc,?_⟩⟩
 have hcc:=(callOk_iff c).1 (h2 c hc)
 refine ⟨by omega,?_⟩
 have:=hf.2 c hc
 unfold fitC at this
 cases hx:S[c.ob.toNat]? with
 | none=>rw [hx] at this;cases this
 | some x =>
   rw [hx] at this
   exact ⟨x,rfl,ha.2 x (List.mem_of_getElem? hx),hcc.2.2.1.1,by simpa using this⟩
theorem stOk_zero {S:List Spec} (ha:areS S=true):stOk S (0,0):=by
 simp only [areS,zp4,btw_true,List.all_eq_true] at ha
 constructor <;> intro x hx <;> have:=((specOk_iff x).1 (ha.2 x (List.mem_of_getElem? hx))).1 <;> (refine ⟨by decide,?_⟩) <;> show (0:Int)<x.1 <;> omega
section
variable (S:List Spec) (h:List Call) (must:Call->Call->Bool)
def endsM (m:Nat):Bool := !(List.range h.length).any fun i=>(h[i]?.map fun c=>decide (0<c.to) && !m.testBit i).getD false
def freeM (m i:Nat) (c:Call):Bool := !m.testBit i&&(List.range h.length).all fun k=>m.testBit k||(h[k]?.map fun d => !must d c).getD true
def nextM (m:Nat) (s:Int×Int) (i:Nat):Option (Nat×Int×Int):=h[i]?.bind fun c=>bif freeM h must m i c&&okS S c s then some (ins m i,doS S c s) else none
def dfs:Nat->Nat->Int×Int->List (List Nat)
 | 0,m,s=>bif endsM h m then [[]] else []
 | f+1,m,s=>(bif endsM h m then [[]] else [])++(List.range h.length).flatMap fun i=>((nextM S h must m s i).map fun p=>(dfs f p.1 p.2).map (i :: ·)).getD []
def room (m:Nat):Nat:=(List.range h.length).countP fun i => !m.testBit i
def ords (m:Nat) (s:Int×Int):List (List Nat):=dfs S h must (room h m) m s
end
theorem countP_lt' {p p':Nat->Bool} {i:Nat} {l:List Nat} (hn:l.Nodup) (hi:i∈l) (hp:p i=true) (hp':p' i=false) (hne : ∀ k,k≠i->p' k=p k):l.countP p'+1=l.countP p:=by
 induction l with
 | nil=>simp at hi
 | cons k r ih =>
   simp only [List.nodup_cons] at hn
   simp only [List.countP_cons]
   by_cases hk:k=i
   ·subst hk
    have:r.countP p'=r.countP p:=List.countP_congr fun q hq=>by rw [hne q (by rintro rfl;exact hn.1 hq)]
    simp [hp,hp',this]
   ·have hir:i∈r:=by rcases List.mem_cons.1 hi with h | h;exact absurd h.symm hk;exact h
    have:=ih hn.2 hir
    rw [hne k hk];omega
theorem room_ins {h:List Call} {m i:Nat} (hi:i<h.length) (hm:m.testBit i=false):room h (ins m i)+1=room h m:=by
 refine countP_lt' List.nodup_range (List.mem_range.2 hi) (by simp [hm]) (by simp [ins_test]) fun k hk => ?_
 have : ¬ i=k:=fun e=>hk e.symm
 simp [ins_test,this]
theorem nextM_some {S:List Spec} {h:List Call} {must:Call->Call->Bool} {m:Nat} {s:Int×Int} {i:Nat} {p:Nat×Int×Int} (hp:nextM S h must m s i=some p) :
  ∃ c,h[i]?=some c/\i<h.length/\m.testBit i=false/\freeM h must m i c=true/\okS S c s=true/\p=(ins m i,doS S c s):=by
 unfold nextM at hp
 cases hc:h[i]? with
 | none=>rw [hc] at hp;cases hp
 | some c =>
   rw [hc] at hp
   simp only [Option.bind_some] at hp
   cases hf:freeM h must m i c <;> cases ho:okS S c s <;> simp [hf,ho] at hp
   refine ⟨c,rfl,(zp2.1 hc).1,?_,hf,ho,hp.symm⟩
   simp only [freeM,zp4] at hf
   simpa using hf.1
theorem ords_eq (S:List Spec) (h:List Call) (must:Call->Call->Bool) (m:Nat) (s:Int×Int) :
  ords S h must m s=(bif endsM h m then [[]] else [])++(List.range h.length).flatMap fun i=>((nextM S h must m s i).map fun p=>(ords S h must p.1 p.2).map (i :: ·)).getD []:=by
 have hstep : ∀ i,((nextM S h must m s i).map fun p=>(ords S h must p.1 p.2).map (i :: ·))=(nextM S h must m s i).map fun p=>(dfs S h must (room h m-1) p.1 p.2).map (i :: ·):=by
  intro i
  cases hn:nextM S h must m s i with
  | none=>rfl
  | some p =>
    obtain ⟨c,hc,hi,ht,_,_,rfl⟩:=nextM_some hn
    have:=room_ins hi ht
    simp only [Option.map_some,ords]
    rw [show room h (ins m i)=room h m-1 by omega]
 unfold ords at hstep ⊢
 cases hr:room h m with
 | zero =>
   have : ∀ i∈List.range h.length,((nextM S h must m s i).map fun p=>(dfs S h must (room h p.1) p.1 p.2).map (i :: ·)).getD []=[]:=by
    intro i hi
    cases hn:nextM S h must m s i with
    | none=>rfl
    | some p =>
      obtain ⟨c,hc,hi,ht,_,_,rfl⟩:=nextM_some hn
      have:=room_ins hi ht
      omega
   rw [flatMap_cong this]
   simp [dfs]
 | succ f =>
   rw [hr] at hstep
   simp only [Nat.add_sub_cancel] at hstep
   simp only [dfs,hstep]
end Go.Am

namespace Go.Am
open Go
theorem Z200a_eq {m i:Nat} (hm:m<256) (hi:i<=8):Z200a Ar.std (m:Int) (i:Int)=some (m.testBit i):=by
 have h0:decide ((i:Int)<0)=false:=by simp
 simp only [Z200a,std_zlt,h0,nk_false,bsome,std_zeq,std_bits,std_shr,has_u8 m i hm hi]
def keyP (m:Nat) (s:Int×Int):D := .agg [.int .u8 m,.int .i64 s.1,.int .i64 s.2]
theorem keyP_inj {m m':Nat} {s s':Int×Int} (h:keyP m s=keyP m' s'):m=m'/\s=s':=by
 simp only [keyP,D.agg.injEq,List.cons.injEq,D.int.injEq,true_and,and_true] at h
 exact ⟨by omega,Prod.ext h.2.1 h.2.2⟩
def GoodM (S:List Spec) (h:List Call) (must:Call->Call->Bool) (mp:List (D×D)):Prop := ∀ (m:Nat) (s:Int×Int) (v:D),Am.mget mp (keyP m s)=some v->v = .int .i64 ((ords S h must m s).length:Int)
theorem GoodM.nil (S:List Spec) (h:List Call) (must:Call->Call->Bool):GoodM S h must []:=fun m s v hv=>by simp [Am.mget] at hv
theorem GoodM.put {S:List Spec} {h:List Call} {must:Call->Call->Bool} {mp:List (D×D)} (hg:GoodM S h must mp) (m:Nat) (s:Int×Int):GoodM S h must (Am.mput mp (keyP m s) (.int .i64 ((ords S h must m s).length:Int))):=by
 intro m' s' v hv
 rw [mget_mput] at hv
 split at hv
 ·rename_i e
  obtain ⟨rfl,rfl⟩:=keyP_inj e
  exact (Option.some.inj hv).symm
 ·exact hg m' s' v hv
def contr (S:List Spec) (h:List Call) (must:Call->Call->Bool) (m:Nat) (s:Int×Int) (i:Nat):Nat:=((nextM S h must m s i).map fun p=>(ords S h must p.1 p.2).length).getD 0
theorem ords_len (S:List Spec) (h:List Call) (must:Call->Call->Bool) (m:Nat) (s:Int×Int):(ords S h must m s).length=(bif endsM h m then 1 else 0)+((List.range h.length).map (contr S h must m s)).sum:=by
 rw [ords_eq,List.length_append,List.length_flatMap]
 congr 1
 ·cases endsM h m <;> rfl
 ·congr 1
  refine List.map_congr_left fun i _ => ?_
  unfold contr
  cases nextM S h must m s i <;> simp
theorem sum_le {f:Nat->Nat} {n:Nat} : ∀ {i:Nat},i<=n->((List.range i).map f).sum<=((List.range n).map f).sum:=by
 intro i hi
 obtain ⟨k,rfl⟩ : ∃ k,n=i+k:=⟨n-i,by omega⟩
 rw [List.range_add,List.map_append,List.sum_append]
 omega
theorem dfs_len (S:List Spec) (h:List Call) (must:Call->Call->Bool) (hl:h.length<=8) : ∀ (f m:Nat) (s:Int×Int),(dfs S h must f m s).length<=9 ^ (f+1):=by
 intro f
 induction f with
 | zero=>intro m s;simp only [dfs];cases endsM h m <;> simp
 | succ f ih =>
   intro m s
   have hs : ∀ l:List Nat,((l.flatMap fun i=>((nextM S h must m s i).map fun p=>(dfs S h must f p.1 p.2).map (i :: ·)).getD [])).length<=l.length*9 ^ (f+1):=by
    intro l
    induction l with
    | nil=>simp
    | cons i l ihl =>
      rw [List.flatMap_cons,List.length_append,List.length_cons,Nat.succ_mul]
      have:(((nextM S h must m s i).map fun p=>(dfs S h must f p.1 p.2).map (i :: ·)).getD []).length<=9 ^ (f+1):=by
       cases nextM S h must m s i with
       | none=>simp
       | some p=>simpa using ih p.1 p.2
      omega
   have h1:=hs (List.range h.length)
   simp only [dfs,List.length_append]
   have h2:(bif endsM h m then [[]] else []:List (List Nat)).length<=1:=by cases endsM h m <;> simp
   have h3:(List.range h.length).length*9 ^ (f+1)<=8*9 ^ (f+1):=Nat.mul_le_mul_right _ (by simpa using hl)
   have h4:9 ^ (f+1+1)=9*9 ^ (f+1):=by rw [Nat.pow_succ];omega
   have h5:1<=9 ^ (f+1):=Nat.one_le_pow _ _ (by decide)
   omega
theorem ords_lt (S:List Spec) (h:List Call) (must:Call->Call->Bool) (hl:h.length<=8) (m:Nat) (s:Int×Int):(ords S h must m s).length<1000000000:=by
 have h1:=dfs_len S h must hl (room h m) m s
 have h2:room h m<=8:=by
  have:=List.countP_le_length (p:=fun i => !m.testBit i) (l:=List.range h.length)
  unfold room;rw [List.length_range] at this;omega
 have h3:9 ^ (room h m+1)<=9 ^ 9:=Nat.pow_le_pow_right (by decide) (by omega)
 have h4:(9:Nat) ^ 9=387420489:=by decide
 unfold ords;omega
section
variable {S:List Spec} {h:List Call}
theorem Z191a_eq (hl:h.length<=8) {m:Nat} (hm:m<256) (s1 s2:Int) (mp:List (D×D)) (x:List D):Z191a Ar.std (m:Int) s1 s2 mp x (eCalls h)=some (endsM h m):=by
 have e:iter (Z191aL0 Ar.std (m:Int) (eCalls h)) 0=some (bif (List.range h.length).any (fun i=>(h[i]?.map fun c=>decide (0<c.to) && !m.testBit i).getD false) then .inr () else .inl ()):=by
  refine iter_rng h.length _ _ _ (fun i hi => ?_) ?_
  ·have hc:=zp1 hi
   generalize h[i]=c at hc
   simp only [Z191aL0,std_zlt,len_enc,ltC hi,cond_true,gt_enc hc,bsome,Z200a_eq hm (by omega:i<=8),std_wrp,std_zadd,wrap1 hi (by omega),hc,Option.map_some,Option.getD_some,Call.to]
   cases decide (0<c.2.2.2.2.2) <;> cases m.testBit i <;> rfl
  ·simp [Z191aL0]
 simp only [Z191a,e,bsome,endsM]
 cases (List.range h.length).any _ <;> rfl
theorem Z201aL0_eq (hl:h.length<=8) (hok : ∀ c∈h,callOk c=true) {m:Nat} (hm:m<256) {i:Nat} {c:Call} (hi:i<=8) :
  iter (Z201aL0 Ar.std (m:Int) (eCalls h) c.1 c.2.1 c.2.2.1 c.2.2.2.1 c.2.2.2.2.1 c.2.2.2.2.2) (!m.testBit i,0)=some (freeM h bef m i c):=by
 have:=iter_fold (step:=Z201aL0 Ar.std (m:Int) (eCalls h) c.1 c.2.1 c.2.2.1 c.2.2.2.1 c.2.2.2.2.1 c.2.2.2.2.2) (List.range h.length) (fun (s:Bool) k=>(s,(k:Int))) (fun s k=>s&&(m.testBit k||(h[k]?.map fun d => !bef d c).getD true)) id
  (fun k j s hj hk=>by
   have hkj:k=j:=by rw [List.getElem?_range (by simpa using hk)] at hj;exact Option.some.inj hj
   subst hkj
   have hk':k<h.length:=by simpa using hk
   have hd:=zp1 hk'
   have hdm:=zp6 hk'
   generalize h[k]=d at hd hdm
   have hto:0<=d.to:=by have:=(callOk_iff d).1 (hok d hdm);omega
   simp only [Z201aL0,std_zlt,len_enc,ltC hk',cond_true,gt_enc hd,bsome,Z200a_eq hm (by omega:k<=8),Z75_eq d c hto,std_wrp,std_zadd,wrap1 hk' (by omega),hd,Option.map_some,Option.getD_some]
   cases s <;> cases m.testBit k <;> cases bef d c <;> rfl)
  (fun s=>by simp [Z201aL0]) (!m.testBit i)
 rw [show ((!m.testBit i,0):Bool×Int)=(!m.testBit i,((0:Nat):Int)) from rfl,this,foldl_and]
 rfl
theorem Z163_ok (hl:h.length<=8) (hok : ∀ c∈h,callOk c=true/\callIn S c) : ∀ (n m:Nat) (s:Int×Int) (mp:List (D×D)),room h m<n->m<256->stOk S s->GoodM S h bef mp ->
  ∃ mp',GoodM S h bef mp'/\Z163R Ar.std n (m:Int) s.1 s.2 mp (eSpecs S) (eCalls h)=some (((ords S h bef m s).length:Int),mp'):=by
 intro n
 induction n with
 | zero=>intro m s mp hr;omega
 | succ n ih =>
   intro m s mp hr hm hs hg
   show ∃ mp',GoodM S h bef mp'/\Z163B Ar.std (Z163R Ar.std n) (m:Int) s.1 s.2 mp (eSpecs S) (eCalls h)=some (((ords S h bef m s).length:Int),mp')
   have hmd:((ords S h bef m s).length:Int)<1000000000:=by have:=ords_lt S h bef hl m s;omega
   unfold Z163B
   cases hk:Am.mget mp (keyP m s) with
   | some v =>
     have hv:=hg m s v hk
     refine ⟨mp,hg,?_⟩
     have:lk Ar.std (cI .i64) mp (.agg [.int .u8 (m:Int),.int .i64 s.1,.int .i64 s.2])=some (some ((ords S h bef m s).length:Int)):=by
      show (Am.mget mp (keyP m s)).elim _ _=_
      rw [hk,hv];simp
     rw [this]
     rfl
   | none =>
     have:lk Ar.std (cI .i64) mp (.agg [.int .u8 (m:Int),.int .i64 s.1,.int .i64 s.2])=some none:=by
      show (Am.mget mp (keyP m s)).elim _ _=_
      rw [hk];rfl
     rw [this]
     simp only [bsome,Option.elim_none,cond_false,Z191a_eq hl hm,cond_some,Z192c]

     have hloop:=iter_rel (step:=Z201aL1 Ar.std (m:Int) s.1 s.2 (eSpecs S) (eCalls h) (Z163R Ar.std n)) h.length (fun (q:List (D×D)×Int) i=>((i:Int),q.1,q.2))
      (fun i q=>GoodM S h bef q.1/\q.2=(bif endsM h m then 1 else 0:Int)+(((List.range i).map (contr S h bef m s)).sum:Int)) (fun q=>(q.1,q.2))
      (fun i q hi hR=>by
       obtain ⟨q1,q2⟩:=q
       obtain ⟨hg1,rfl⟩:=hR
       have hc:=zp1 hi
       have hcm:=zp6 hi
       generalize h[i]=c at hc hcm
       obtain ⟨hcok,hcin⟩:=hok c hcm
       have hsum:((List.range (i+1)).map (contr S h bef m s)).sum=((List.range i).map (contr S h bef m s)).sum+contr S h bef m s i:=by
        rw [List.range_succ,List.map_append,List.sum_append];simp
       have hle:=ords_len S h bef m s
       have hle2:((List.range (i+1)).map (contr S h bef m s)).sum<=_:=sum_le (f:=contr S h bef m s) hi
       have hlt2:=ords_lt S h bef hl m s
       simp only [Z201aL1,std_zlt,len_enc,ltC hi,cond_true,gt_enc hc,bsome,Z200a_eq hm (by omega:i<=8),Z201aL0_eq hl (fun c hc=>(hok c hc).1) hm (by omega:i<=8),std_wrp,std_zadd,wrap1 hi (by omega)]
       cases hf:freeM h bef m i c with
       | false =>
         have h0:contr S h bef m s i=0:=by simp [contr,nextM,hc,hf]
         refine ⟨(q1,_),⟨hg1,by simp only [hsum,h0,Nat.add_zero]⟩,?_⟩
         simp only [cond_false,bsome]
       | true =>
         have ht:m.testBit i=false:=by simp only [freeM,zp4] at hf;simpa using hf.1
         simp only [cond_true,Z108a_eq hcin hs,bsome]
         cases ho:okS S c s with
         | false =>
           have h0:contr S h bef m s i=0:=by simp [contr,nextM,hc,ho]
           refine ⟨(q1,_),⟨hg1,by simp only [hsum,h0,Nat.add_zero]⟩,?_⟩
           simp only [cond_false,bsome]
         | true =>
           have hn:nextM S h bef m s i=some (ins m i,doS S c s):=by simp [nextM,hc,hf,ho]
           have h0:contr S h bef m s i=(ords S h bef (ins m i) (doS S c s)).length:=by simp [contr,hn]
           have hz:decide ((i:Int)<0)=false:=by simp
           obtain ⟨mp2,hg2,e2⟩:=ih (ins m i) (doS S c s) q1 (by have:=room_ins hi ht;omega) (ins_lt (n:=8) hm (by omega)) (doS_ok hcin hs) hg1
           have hins:Ar.std.bits .or .u8 (m:Int) (Ar.std.shl .u8 1 (i:Int))=((ins m i:Nat):Int):=ins_u8 m i hm (by omega)
           refine ⟨(mp2,_),⟨hg2,rfl⟩,?_⟩
           simp only [cond_true,hz,nk_false,bsome,hins,e2]
           have hw:IntKind.i64.wrap ((bif endsM h m then 1 else 0:Int)+(((List.range i).map (contr S h bef m s)).sum:Int)+((ords S h bef (ins m i) (doS S c s)).length:Int))=(bif endsM h m then 1 else 0:Int)+(((List.range (i+1)).map (contr S h bef m s)).sum:Int):=by
            rw [hsum,h0]
            rw [hsum,h0] at hle2
            cases he:endsM h m <;> simp only [he,cond_true,cond_false] at hle ⊢ <;> (rw [i64w _ (by omega) (by omega)];omega)
           rw [hw])
      (fun q hR=>by simp [Z201aL1]) (mp,(bif endsM h m then 1 else 0:Int)) ⟨hg,by simp⟩
     obtain ⟨q,⟨hg1,hq2⟩,hit⟩:=hloop
     have htot:q.2=((ords S h bef m s).length:Int):=by
      rw [hq2,ords_len];cases endsM h m <;> simp
     simp only [Z201a]
     have hit':iter (Z201aL1 Ar.std (m:Int) s.1 s.2 (eSpecs S) (eCalls h) (Z163R Ar.std n)) (0,mp,bif endsM h m then 1 else 0)=some (q.1,q.2):=hit
     rw [hit']
     refine ⟨Am.mput q.1 (keyP m s) (.int .i64 ((ords S h bef m s).length:Int)),hg1.put m s,?_⟩
     simp only [bsome,htot,std_mput]
     rfl
theorem Z163_eq (hl:h.length<=8) (hok : ∀ c∈h,callOk c=true/\callIn S c) {m:Nat} {s:Int×Int} {mp:List (D×D)} (hm:m<256) (hs:stOk S s) (hg:GoodM S h bef mp) :
  ∃ mp',GoodM S h bef mp'/\Z163 Ar.std (m:Int) s.1 s.2 mp (eSpecs S) (eCalls h)=some (((ords S h bef m s).length:Int),mp'):=by
 have hr:room h m<fuel:=by
  have:=List.countP_le_length (p:=fun i => !m.testBit i) (l:=List.range h.length)
  rw [List.length_range] at this
  rw [fuel_eq];unfold room;omega
 exact Z163_ok hl hok fuel m s mp hr hm hs hg
end
section
variable {S:List Spec} {h:List Call}
end
end Go.Am

namespace Go.Am
open Go
def eNats (l:List Nat):List D:=eInts (l.map (fun i:Nat=>(i:Int)))
theorem ap_nat {l:List Nat} {i:Nat} (h:l.length<4294967295):ap Ar.std (eNats l) [.int .i64 (i:Int)]=some (eNats (l++[i])):=by
 unfold eNats
 have:=ap_enc1 (c:=cI .i64) (l:=l.map (fun i:Nat=>(i:Int))) (a:=(i:Int)) (d := .int .i64 (i:Int)) rfl (by simpa using h)
 rw [this,List.map_append]
 rfl
def kid (S:List Spec) (h:List Call) (must:Call->Call->Bool) (m:Nat) (s:Int×Int) (i:Nat):List (List Nat):=((nextM S h must m s i).map fun p=>(ords S h must p.1 p.2).map (i :: ·)).getD []
theorem kid_len (S:List Spec) (h:List Call) (must:Call->Call->Bool) (m:Nat) (s:Int×Int) (i:Nat):(kid S h must m s i).length=contr S h must m s i:=by
 unfold kid contr;cases nextM S h must m s i <;> simp
section
variable {S:List Spec} {h:List Call}
end
def ords0 (S:List Spec) (h:List Call):List (List Nat):=ords S h bef 0 (0,0)
def orderR (S:List Spec) (h:List Call):List Nat×Int:=bif decide (errH S h=0) then (match ords0 S h with | []=>([],5) | l::_=>(l,0)) else ([],errH S h)
theorem errH_zero {S:List Spec} {h:List Call} (he:errH S h=0):areS S=true/\forH S h=true:=by
 unfold errH at he
 cases ha:areS S <;> cases hf:forH S h <;> simp [ha,hf] at he ⊢
theorem Z121_eq (S:List Spec) (h:List Call) (hs:SpecsOk S) (hl:h.length<Lg):Z121 Ar.std (eSpecs S) (eCalls h)=some (bif decide (errH S h=0) then (((ords0 S h).length:Int),0) else (0,errH S h)):=by
 simp only [Z121,Z72_eq S h hs hl,bsome,std_zeq,Z162]
 by_cases he:errH S h=0
 ·obtain ⟨ha,hf⟩:=errH_zero he
  obtain ⟨h8,hok⟩:=forH_in ha hf
  obtain ⟨mp',_,e⟩:=Z163_eq (S:=S) (h:=h) h8 hok (m:=0) (s:=(0,0)) (mp:=[]) (by decide) (stOk_zero ha) (GoodM.nil _ _ _)
  have e':Z163 Ar.std 0 0 0 [] (eSpecs S) (eCalls h)=_:=e
  simp only [he,decide_true,cond_true,e',bsome,ords0]
 ·simp only [he,decide_false,cond_false]
theorem Z85_eq (S:List Spec) (h:List Call) (hs:SpecsOk S) (hl:h.length<Lg):Z85 Ar.std (eSpecs S) (eCalls h)=some (decide (errH S h=0) && !(ords0 S h).isEmpty,errH S h):=by
 simp only [Z85,Z121_eq S h hs hl,bsome,std_zlt]
 by_cases he:errH S h=0
 ·simp only [he,decide_true,cond_true]
  cases ords0 S h <;> simp
 ·simp [he]
end Go.Am

namespace Go.Am
open Go
def hc (h:List Call) (x:Int):Call:=h.getD x.toNat (0,0,0,0,0,0)
def inH (h:List Call) (x:Int):Bool:=btw 0 x ((h.length:Int)-1)
theorem inH_iff {h:List Call} {x:Int}:inH h x=true↔0<=x/\x<h.length:=by unfold inH;rw [btw_true];omega
theorem hc_get {h:List Call} {x:Int} (hx:inH h x=true):h[x.toNat]?=some (hc h x):=by
 rw [inH_iff] at hx
 have:x.toNat<h.length:=by omega
 simp [hc,List.getD_eq_getElem?_getD,zp1 this]
theorem hc_nat {h:List Call} {i:Nat} {c:Call} (hi:h[i]?=some c):hc h (i:Int)=c:=by simp [hc,List.getD_eq_getElem?_getD,hi]
theorem hc_mem {h:List Call} {x:Int} (hx:inH h x=true):hc h x∈h:=List.mem_of_getElem? (hc_get hx)
def numsAt (h:List Call) (l:List Int) (i:Nat):Bool:=(l[i]?.map fun x => !inH h x||(l.take i).contains x).getD false
def nums (h:List Call) (l:List Int):Bool := !(List.range l.length).any (numsAt h l)
def full (h:List Call) (l:List Int):Bool := !(List.range h.length).any fun i=>(h[i]?.map fun c=>decide (c.to≠0) && !l.contains (i:Int)).getD false
def isL (h:List Call) (l:List Int):Bool:=nums h l&&full h l
theorem nums_iff {h:List Call} {l:List Int}:nums h l=true↔(∀ x∈l,inH h x=true)/\l.Nodup:=by
 simp only [nums,Bool.not_eq_true',List.any_eq_false,List.mem_range]
 constructor
 ·intro hn
  have hx : ∀ i (hi:i<l.length),inH h l[i]=true/\l[i]∉l.take i:=by
   intro i hi
   have:=hn i hi
   simp only [numsAt,zp1 hi,Option.map_some,Option.getD_some,Bool.or_eq_true,not_or,Bool.not_eq_true',Bool.not_eq_false,List.contains_iff_mem] at this
   exact this
  refine ⟨fun x hxm => ?_,?_⟩
  ·obtain ⟨i,hi,rfl⟩:=List.getElem_of_mem hxm
   exact (hx i hi).1
  ·rw [List.Nodup,List.pairwise_iff_getElem]
   intro i j hi hj hij e
   refine (hx j hj).2 ?_
   rw [<-e]
   have hlt:i<(l.take j).length:=by simp;omega
   have:(l.take j)[i]=l[i]:=List.getElem_take
   rw [<-this];exact zp6 hlt
 ·rintro ⟨h1,h2⟩ i hi
  simp only [numsAt,zp1 hi,Option.map_some,Option.getD_some,Bool.or_eq_true,not_or,Bool.not_eq_true',Bool.not_eq_false,List.contains_iff_mem]
  refine ⟨h1 _ (zp6 hi),fun hm => ?_⟩
  obtain ⟨j,hj,e⟩:=List.getElem_of_mem hm
  have hj':j<i:=by simp at hj;omega
  rw [List.getElem_take] at e
  rw [List.Nodup,List.pairwise_iff_getElem] at h2
  exact h2 j i (by omega) hi hj' e
theorem nums_len {h:List Call} {l:List Int} (hn:nums h l=true):l.length<=h.length:=by
 obtain ⟨h1,h2⟩:=nums_iff.1 hn
 have hs : ∀ x∈l,x∈(List.range h.length).map (fun i:Nat=>(i:Int)):=by
  intro x hx
  have:=inH_iff.1 (h1 x hx)
  exact List.mem_map.2 ⟨x.toNat,List.mem_range.2 (by omega),by omega⟩
 have:=List.Nodup.length_le_of_subset h2 hs
 simpa using this
def seenB (n:Nat) (pre:List Int):List Bool:=pre.foldl (fun t x=>t.set x.toNat true) (List.replicate n false)
theorem seenB_snoc (n:Nat) (pre:List Int) (x:Int):seenB n (pre++[x])=(seenB n pre).set x.toNat true:=by simp [seenB]
theorem seenB_get (n:Nat) : ∀ (pre:List Int),(∀ x∈pre,0<=x/\x<n)->(seenB n pre).length=n /\ ∀ j:Nat,j<n->(seenB n pre)[j]?=some (pre.contains (j:Int)):=by
 intro pre
 induction hl:pre.length generalizing pre with
 | zero =>
   intro _
   obtain rfl:=List.length_eq_zero_iff.1 hl
   refine ⟨by simp [seenB],fun j hj => ?_⟩
   show (List.replicate n false)[j]?=_
   rw [List.getElem?_replicate,if_pos hj];rfl
 | succ k ih =>
   intro hok
   obtain ⟨p,x,rfl⟩ : ∃ p c,pre=p++[c]:=⟨pre.dropLast,pre.getLast (by intro e;rw [e] at hl;cases hl),(List.dropLast_concat_getLast _).symm⟩
   obtain ⟨h1,h2⟩:=ih p (by simpa using hl) (fun d hd=>hok d (by simp [hd]))
   have hx:=hok x (by simp)
   rw [seenB_snoc]
   refine ⟨by simp [h1],fun j hj => ?_⟩
   rw [List.getElem?_set,h2 j hj]
   by_cases he:x.toNat=j
   ·have:x=(j:Int):=by omega
    rw [if_pos he,if_pos (by omega),this];simp
   ·have h3 : ¬ x=(j:Int):=by omega
    have h4:((j:Int) == x)=false:=by simpa using fun e=>h3 e.symm
    rw [if_neg he];simp [h4];exact fun e=>absurd e.symm h3
section
variable {h:List Call} (hl:h.length<=40)
include hl
theorem wrapLh (h0:h.length<=40):IntKind.i64.wrap ((h.length:Int)-1)=(h.length:Int)-1:=wrapS (by omega) (by omega)
theorem Z136a_eq (l:List Int) (hll:l.length<Lg):Z136a Ar.std (eCalls h) (eInts l)=some (isL h l):=by
 simp only [Z136a,std_zlt,len_enc]
 by_cases hlen:(h.length:Int)<(l.length:Int)
 ·have:nums h l=false:=by
   cases hn:nums h l with
   | false=>rfl
   | true=>have:=nums_len hn;omega
  simp only [hlen,decide_true,cond_true,isL,this,Bool.false_and]
 ·have c1:decide ((h.length:Int)=(h.length:Int))=true:=by simp
  have c2:decide ((0:Int)<=(h.length:Int))=true:=by simp
  have c3:decide ((h.length:Int)<4294967296)=true:=decide_eq_true (by omega)
  simp only [hlen,decide_false,cond_false,std_zeq,c1,ck_true,std_zle,c2,std_fits,c3,bsome]
  have hpre : ∀ i,(∀ j,j<i->numsAt h l j=false) -> ∀ x∈l.take i,inH h x=true:=by
   intro i hb x hx
   obtain ⟨j,hj,rfl⟩:=List.getElem_of_mem hx
   have hj1:j<i/\j<l.length:=by simp at hj;omega
   have:=hb j hj1.1
   simp only [numsAt,zp1 hj1.2,Option.map_some,Option.getD_some,Bool.or_eq_false_iff] at this
   rw [List.getElem_take];simpa using this.1
  have hstop:=iter_stop (step:=Z136aL0 Ar.std (eCalls h) (eInts l)) l.length (fun i=>((i:Int),enc cB (seenB h.length (l.take i)))) (numsAt h l) (enc cB (seenB h.length (l.take l.length))) (fun i hi hb=>by
   have hx:=zp1 hi
   generalize l[i]=x at hx
   have hp:=hpre i hb
   obtain ⟨t1,t2⟩:=seenB_get h.length (l.take i) (fun x hx=>inH_iff.1 (hp x hx))
   have hbt:btw 0 x ((h.length:Int)-1)=inH h x:=rfl
   simp only [numsAt,hx,Option.map_some,Option.getD_some,Z136aL0,std_zlt,len_enc,ltC hi,cond_true,gt_enc hx,bsome,Z90_eq,std_wrp,std_zsub,wrapLh hl hl,hbt]
   cases hin:inH h x with
   | false=>exact ⟨fun h=>(by cases h),fun _=>⟨_,rfl⟩⟩
   | true =>
     have hix:=inH_iff.1 hin
     have d0:decide (0<=x)=true:=decide_eq_true hix.1
     have d1:decide (x<(h.length:Int))=true:=decide_eq_true hix.2
     have hnat:Ar.std.nat (Ar.std.zadd 0 x)=x.toNat:=by simp
     have hg:=t2 x.toNat (by omega)
     rw [show ((x.toNat:Nat):Int)=x by omega] at hg
     have g1:gc Ar.std cB (enc cB (seenB h.length (l.take i))) x.toNat=some ((l.take i).contains x):=gc_enc hg
     have g2:Ar.std.lget (enc cB (seenB h.length (l.take i))) x.toNat=some (cB.en ((l.take i).contains x)):=by rw [std_lget,enc_get,hg];rfl
     have hset:Ar.std.lset (enc cB (seenB h.length (l.take i))) x.toNat (D.bool true)=enc cB ((seenB h.length (l.take i)).set x.toNat true):=enc_set _ _ true
     simp only [cond_true,std_zle,d0,d1,ck_true,bsome,hnat,g1,g2,hset,Bool.not_true,Bool.false_or]
     cases hcn:(l.take i).contains x with
     | true=>exact ⟨fun h=>(by cases h),fun _=>⟨_,rfl⟩⟩
     | false =>
       refine ⟨fun _ => ?_,fun h=>(by cases h)⟩
       simp only [cond_false,std_zadd,wrap1 hi hll,take_succ_get hx,seenB_snoc]) (fun hb=>by simp [Z136aL0])
  have e0:((0:Int),Ar.std.rep (h.length:Int) (D.bool false))=(((0:Nat):Int),enc cB (seenB h.length (l.take 0))):=by
   rw [show (D.bool false)=cB.en false from rfl,enc_rep];simp [seenB]
  rw [e0]
  rcases hstop with ⟨h1,h2,h3⟩ | ⟨h1,z,h3⟩
  ·rw [h3]
   simp only [bsome,Sum.elim_inl,isL,nums,h1,Bool.not_false,Bool.true_and,List.take_length]
   have hp:=hpre l.length h2
   rw [List.take_length] at hp
   obtain ⟨t1,t2⟩:=seenB_get h.length l (fun x hx=>inH_iff.1 (hp x hx))
   have e1:iter (Z136aL1 Ar.std (eCalls h) (enc cB (seenB h.length l))) 0=some (bif (List.range h.length).any (fun i=>(h[i]?.map fun c=>decide (c.to≠0) && !l.contains (i:Int)).getD false) then .inr () else .inl ()):=by
    refine iter_rng h.length _ _ _ (fun i hi => ?_) ?_
    ·have hc:=zp1 hi
     generalize h[i]=c at hc
     have d0:decide ((0:Int)<=(i:Int))=true:=by simp
     have hnat:Ar.std.nat (Ar.std.zadd 0 (i:Int))=i:=by simp
     have g1:gc Ar.std cB (enc cB (seenB h.length l)) i=some (l.contains (i:Int)):=gc_enc (t2 i hi)
     simp only [Z136aL1,std_zlt,std_zle,len_enc,ltC hi,cond_true,gt_enc hc,bsome,std_zeq,d0,ck_true,hnat,g1,hc,Option.map_some,Option.getD_some,Call.to]
     simp only [std_wrp,std_zadd,wrap1 hi (show h.length<9223372036854775808 by omega)]
     by_cases hz:c.2.2.2.2.2=0
     ·simp [hz]
     ·cases l.contains (i:Int) <;> simp [hz]
    ·simp [Z136aL1]
   rw [e1]
   unfold full
   cases (List.range h.length).any _ <;> rfl
  ·rw [h3]
   simp [isL,nums,h1]
omit hl in
theorem Z137a_eq (l:List Int) (hll:l.length<Lg) (x:Int):Z137a Ar.std (eInts l) x=some (l.contains x):=by
 have e:iter (Z137aL0 Ar.std (eInts l) x) 0=some (bif l.any (fun y=>decide (y=x)) then .inr () else .inl ()):=by
  refine iter_any l _ _ _ (fun i y hy hi => ?_) ?_
  ·simp [Z137aL0,gt_enc hy,hi,wrap1 hi hll]
  ·simp [Z137aL0]
 simp only [Z137a,e,bsome]
 have:l.any (fun y=>decide (y=x))=l.contains x:=by
  rw [Bool.eq_iff_iff];simp
 rw [this]
 cases l.contains x <;> rfl
def keepsAt (must:Call->Call->Bool) (h:List Call) (l:List Int) (i:Nat):Bool:=(l[i]?.map fun x=>(l.take i).any fun y=>must (hc h x) (hc h y)).getD false
def keepsL (must:Call->Call->Bool) (h:List Call) (l:List Int):Bool := !(List.range l.length).any (keepsAt must h l)
omit hl in
theorem Z140a_eq (l:List Int) (hll:l.length<Lg) (hin : ∀ x∈l,inH h x=true):Z140a Ar.std (eCalls h) (eInts l)=some (keepsL bef h l):=by
 have e0 : ∀ (i:Nat) (x:Int),l[i]?=some x->iter (Z140aL0 Ar.std (eCalls h) (eInts l) (i:Int)) 0=some (bif (l.take i).any (fun y=>bef (hc h x) (hc h y)) then .inr () else .inl ()):=by
  intro i x hx
  have hi:i<l.length:=(zp2.1 hx).1
  have hlen:(l.take i).length=i:=by simp;omega
  have hxi:=hin x (List.mem_of_getElem? hx)
  refine iter_any (l.take i) _ _ _ (fun k y hy hk => ?_) (by simp [Z140aL0,hlen])
  have hk':k<i:=by omega
  have hy':l[k]?=some y:=by rw [List.getElem?_take] at hy;rw [if_pos hk'] at hy;exact hy
  have hyi:=hin y (List.mem_of_getElem? hy')
  simp only [Z140aL0,std_zlt,ltC hk',cond_true,gt_enc hx,gt_enc hy',bsome,gt_encI (inH_iff.1 hxi).1 (hc_get hxi),gt_encI (inH_iff.1 hyi).1 (hc_get hyi),Z171_eq,std_wrp,std_zadd,wrap1 hk' (Nat.lt_trans hi hll)]
  cases bef (hc h x) (hc h y) <;> rfl
 have e:iter (Z140aL1 Ar.std (eCalls h) (eInts l)) 0=some (bif (List.range l.length).any (keepsAt bef h l) then .inr () else .inl ()):=by
  refine iter_rng l.length _ _ _ (fun i hi => ?_) ?_
  ·have hx:=zp1 hi
   generalize l[i]=x at hx
   simp only [Z140aL1,std_zlt,len_enc,ltC hi,cond_true,e0 i x hx,bsome,std_wrp,std_zadd,wrap1 hi hll,keepsAt,hx,Option.map_some,Option.getD_some]
   cases (l.take i).any _ <;> rfl
  ·simp [Z140aL1]
 simp only [Z140a,e,bsome,keepsL]
 cases (List.range l.length).any _ <;> rfl
def allowsF (S:List Spec) (h:List Call):List Int->Int×Int->Bool
 | [],_=>true
 | x::l,s=>okS S (hc h x) s&&allowsF S h l (doS S (hc h x) s)
def allowsL (S:List Spec) (h:List Call) (l:List Int):Bool:=allowsF S h l (0,0)
def stLh (S:List Spec) (s:Int×Int):List Int:=[s.1,s.2].take S.length
omit hl in
theorem stLh_get {S:List Spec} {c:Call} (hin:callIn S c) (s:Int×Int):(stLh S s)[c.ob.toNat]?=some (nowOf c s):=by
 obtain ⟨hob,x,hx,_⟩:=hin
 have hlt:=(zp2.1 hx).1
 unfold stLh
 rw [List.getElem?_take,if_pos hlt]
 rcases hob with h | h
 ·simp [h,nowOf]
 ·simp [h,nowOf]
omit hl in
theorem stLh_set {S:List Spec} {c:Call} (hin:callIn S c) (s:Int×Int):(stLh S s).set c.ob.toNat (nx (spOf S c).2.2.1 (nowOf c s) c.op)=stLh S (doS S c s):=by
 obtain ⟨hob,x,hx,_⟩:=hin
 unfold stLh
 rw [<-List.take_set]
 congr 1
 rcases hob with h | h <;> simp [h,doS]
omit hl in
theorem Z138a_eq {S:List Spec} (ha:areS S=true) (hok : ∀ c∈h,callOk c=true/\callIn S c) (l:List Int) (hll:l.length<Lg) (hin : ∀ x∈l,inH h x=true):Z138a Ar.std (eSpecs S) (eCalls h) (eInts l)=some (allowsL S h l):=by
 have hS:1<=S.length/\S.length<=2:=by
  simp only [areS,zp4,btw_true] at ha;omega
 have hloop:=iter_list (step:=Z138aL0 Ar.std (eSpecs S) (eCalls h) (eInts l)) l (fun (s:Int×Int) i=>((i:Int),eInts (stLh S s))) (fun s x=>bif okS S (hc h x) s then .inl (doS S (hc h x) s) else .inr (.inr (eInts (stLh S s)))) (fun s => .inl (eInts (stLh S s))) (fun _ s=>stOk S s)
  (fun i x s hx hs=>by
   have hi:i<l.length:=(zp2.1 hx).1
   have hxi:=hin x (List.mem_of_getElem? hx)
   have hcg:=hc_get hxi
   have hcm:=hc_mem hxi
   generalize hc h x=c at hcg hcm
   obtain ⟨hcok,hcin⟩:=hok c hcm
   obtain ⟨y,hy,e,hsy,h1,h2,h3,h4⟩:=callIn_now hcin hs
   obtain ⟨_,_,t1,t2⟩:=(specOk_iff y).1 hsy
   obtain ⟨r,g1,g2,g3,g4⟩:=tab_get t1 h1 h2 h3 h4
   obtain ⟨q,k1,k2,k3,k4⟩:=tab_get t2 h1 h2 h3 h4
   have hob:0<=c.2.1:=by rcases hcin.1 with h | h <;> simp only [Call.ob] at h <;> omega
   have hobl:c.2.1<(S.length:Int):=by have:=(zp2.1 hy).1;simp only [Call.ob] at this;omega
   have d0:decide (0<=c.2.1)=true:=decide_eq_true hob
   have d1:decide (c.2.1<(S.length:Int))=true:=decide_eq_true hobl
   have hnat:Ar.std.nat (Ar.std.zadd 0 c.2.1)=c.ob.toNat:=by simp
   have hsg:=stLh_get hcin s
   have gg:gc Ar.std (cI .i64) (eInts (stLh S s)) c.ob.toNat=some (nowOf c s):=gc_enc hsg
   have gl:Ar.std.lget (eInts (stLh S s)) c.ob.toNat=some (.int .i64 (nowOf c s)):=by rw [std_lget,enc_get,hsg];rfl
   have hset : ∀ v:Int,Ar.std.lset (eInts (stLh S s)) c.ob.toNat (.int .i64 v)=eInts ((stLh S s).set c.ob.toNat v):=fun v=>enc_set _ _ v
   have e1:=gt_eSpecsI (l:=S) hob hy
   have e2:=gt_eTabI h1 g1
   have e3:=gt_encI (c:=cI .i64) (l:=r) h3 g2
   have e4:=gt_eTabI h1 k1
   have e5:=gt_encI (c:=cI .i64) (l:=q) h3 k2
   have hst:Z138aL0 Ar.std (eSpecs S) (eCalls h) (eInts l) ((i:Int),eInts (stLh S s))=some (bif okS S c s then .inl (((i+1:Nat):Int),eInts (stLh S (doS S c s))) else .inr (.inr (eInts (stLh S s)))):=by
    simp only [Z138aL0,std_zlt,std_zle,len_enc,List.length_map,ltC hi,cond_true,gt_enc hx,gt_encI (inH_iff.1 hxi).1 hcg,bsome,e1,std_zeq,d0,d1,ck_true,hnat,gg,gl,e2,e3,e4,e5,cond_some,hset]
    simp only [std_wrp,std_zadd,wrap1 hi hll]
    have hset2:=stLh_set hcin s
    rw [e] at hset2
    rw [hset2]
    unfold okS
    rw [e]
    by_cases hz:c.2.2.2.2.2=0
    ·simp [hz]
    ·by_cases hsa:nx y.2.2.2 (nowOf c s) c.2.2.1=c.2.2.2.1 <;> simp [hz,hsa]
   rw [hst]
   cases hos:okS S c s with
   | true=>exact .inl ⟨_,rfl,doS_ok hcin hs,rfl⟩
   | false=>exact .inr ⟨_,rfl,rfl⟩)
  (fun s hs=>by simp [Z138aL0]) (0,0) (stOk_zero ha)
 have hfold : ∀ (l:List Int) (s:Int×Int),∃ z,foldE (fun s x=>bif okS S (hc h x) s then .inl (doS S (hc h x) s) else .inr (.inr (eInts (stLh S s)))) (fun s=>(.inl (eInts (stLh S s)):List D⊕List D)) l s=bif allowsF S h l s then .inl z else .inr z:=by
  intro l
  induction l with
  | nil=>intro s;exact ⟨_,rfl⟩
  | cons x l ih =>
    intro s
    rw [foldE_cons]
    cases hos:okS S (hc h x) s with
    | true =>
      obtain ⟨z,hz⟩:=ih (doS S (hc h x) s)
      exact ⟨z,by simp only [cond_true,Sum.elim_inl,hz,allowsF,hos,Bool.true_and]⟩
    | false=>exact ⟨_,by simp only [cond_false,Sum.elim_inr,allowsF,hos,Bool.false_and];rfl⟩
 obtain ⟨z,hz⟩:=hfold l (0,0)
 rw [hz] at hloop
 have c1:decide ((S.length:Int)=(S.length:Int))=true:=by simp
 have c2:decide ((0:Int)<=(S.length:Int))=true:=by simp
 have c3:decide ((S.length:Int)<4294967296)=true:=decide_eq_true (by omega)
 have e0:((0:Int),Ar.std.rep (S.length:Int) (D.int .i64 0))=(((0:Nat):Int),eInts (stLh S (0,0))):=by
  rw [show (D.int .i64 0)=(cI .i64).en 0 from rfl,enc_rep]
  have:List.replicate S.length (0:Int)=stLh S (0,0):=by
   unfold stLh
   have h2:S.length=1\/S.length=2:=by omega
   rcases h2 with h | h <;> rw [h] <;> rfl
  simp [this]
 simp only [Z138a,len_enc,List.length_map,std_zeq,c1,ck_true,std_zle,c2,std_fits,c3,bsome,e0,hloop,allowsL]
 cases allowsF S h l (0,0) <;> rfl
end
end Go.Am

namespace Go.Am
open Go
def cN (l:List Nat):List Int:=l.map (fun i:Nat=>(i:Int))
theorem eNats_eq (l:List Nat):eNats l=eInts (cN l):=rfl
@[simp] theorem cN_snoc (l:List Nat) (i:Nat):cN (l++[i])=cN l++[(i:Int)]:=by simp [cN]
theorem cN_mem {l:List Nat} {i:Nat}:(i:Int)∈cN l↔i∈l:=by
 simp only [cN,List.mem_map]
 constructor
 ·rintro ⟨j,hj,e⟩;have:j=i:=by omega
  subst this;exact hj
 ·intro h;exact ⟨i,h,rfl⟩
def maskL (l:List Nat):Nat:=l.foldl ins 0
def runL (S:List Spec) (h:List Call) (l:List Nat):Int×Int:=l.foldl (fun s (i:Nat)=>doS S (hc h (i:Int)) s) (0,0)
theorem maskL_snoc (l:List Nat) (i:Nat):maskL (l++[i])=ins (maskL l) i:=by simp [maskL]
theorem runL_snoc (S:List Spec) (h:List Call) (l:List Nat) (i:Nat):runL S h (l++[i])=doS S (hc h (i:Int)) (runL S h l):=by simp [runL]
theorem snoc_ind {α:Type} {P:List α->Prop} (h0:P []) (h1 : ∀ l a,P l->P (l++[a])) : ∀ l,P l:=by
 intro l
 have : ∀ k (l:List α),l.length=k->P l:=by
  intro k
  induction k with
  | zero=>intro l hl;rw [List.length_eq_zero_iff.1 hl];exact h0
  | succ k ih =>
    intro l hl
    have hne:l≠[]:=by intro e;rw [e] at hl;cases hl
    rw [<-List.dropLast_concat_getLast hne]
    exact h1 _ _ (ih _ (by rw [List.length_dropLast,hl];rfl))
 exact this _ l rfl
theorem maskL_test (l:List Nat) (i:Nat):(maskL l).testBit i=decide (i∈l):=by
 induction l using snoc_ind with
 | h0=>simp [maskL]
 | h1 l a ih =>
   rw [maskL_snoc,ins_test,ih,Bool.eq_iff_iff]
   simp only [Bool.or_eq_true,decide_eq_true_eq,List.mem_append,List.mem_singleton]
   constructor
   ·rintro (h | h)
    ·exact .inl h
    ·exact .inr h.symm
   ·rintro (h | h)
    ·exact .inl h
    ·exact .inr h.symm
theorem maskL_lt {l:List Nat} (hl : ∀ i∈l,i<8):maskL l<256:=by
 induction l using snoc_ind with
 | h0=>decide
 | h1 l a ih =>
   rw [maskL_snoc]
   exact ins_lt (n:=8) (ih (fun i hi=>hl i (by simp [hi]))) (hl a (by simp))
theorem allowsF_snoc (S:List Spec) (h:List Call) (x:Int) : ∀ (l:List Int) (s:Int×Int),allowsF S h (l++[x]) s=(allowsF S h l s&&okS S (hc h x) (l.foldl (fun s x=>doS S (hc h x) s) s))
 | [],s=>by simp [allowsF]
 | y::l,s=>by simp only [List.cons_append,allowsF,allowsF_snoc S h x l,List.foldl_cons,Bool.and_assoc]
theorem allowsL_snoc (S:List Spec) (h:List Call) (l:List Nat) (i:Nat):allowsL S h (cN (l++[i]))=(allowsL S h (cN l)&&okS S (hc h (i:Int)) (runL S h l)):=by
 unfold allowsL
 rw [cN_snoc,allowsF_snoc]
 congr 2
 unfold runL cN
 rw [List.foldl_map]
theorem keepsL_snoc (must:Call->Call->Bool) (h:List Call) (l:List Int) (x:Int):keepsL must h (l++[x])=(keepsL must h l && !l.any fun y=>must (hc h x) (hc h y)):=by
 unfold keepsL
 rw [List.length_append,List.length_singleton,List.range_succ,List.any_append]
 have h1:(List.range l.length).any (keepsAt must h (l++[x]))=(List.range l.length).any (keepsAt must h l):=by
  refine any_congr fun i hi => ?_
  have hi:=List.mem_range.1 hi
  unfold keepsAt
  rw [zp7 hi,List.take_append_of_le_length (by omega)]
 have h2:keepsAt must h (l++[x]) l.length=l.any fun y=>must (hc h x) (hc h y):=by
  unfold keepsAt
  rw [zp8 (Nat.le_refl _)]
  simp
 rw [h1]
 simp only [List.any_cons,List.any_nil,Bool.or_false,h2,Bool.not_or]
structure MustOk (must:Call->Call->Bool) (h:List Call):Prop where
 ret : ∀ c∈h,∀ d∈h,must c d=true->0<c.to
 irr : ∀ c∈h,must c c=false
theorem bef_must {h:List Call} (hok : ∀ c∈h,callOk c=true):MustOk bef h:=by
 refine ⟨fun c hc d _ hb => ?_,fun c hc => ?_⟩
 ·have:=(callOk_iff c).1 (hok c hc)
  simp only [bef,zp4,decide_eq_true_eq] at hb;omega
 ·have:=(callOk_iff c).1 (hok c hc)
  simp only [bef,Bool.and_eq_false_iff,decide_eq_false_iff_not];omega
def addOne (one:Bool) (a:Int×List Nat) (x:List Nat):Int×List Nat:=bif one&&decide (0<a.1) then a else (a.1+1,bif decide (a.1=0) then x else a.2)
theorem addOne_stop {one:Bool} {a:Int×List Nat} (h:(one&&decide (0<a.1))=true) : ∀ L:List (List Nat),L.foldl (addOne one) a=a
 | []=>rfl
 | x::L=>by rw [List.foldl_cons,show addOne one a x=a by simp [addOne,h]];exact addOne_stop h L
theorem addOne_le (one:Bool) : ∀ (L:List (List Nat)) (a:Int×List Nat),0<=a.1->0<=(L.foldl (addOne one) a).1/\(L.foldl (addOne one) a).1<=a.1+(L.length:Int)
 | [],a,h=>by simp [h]
 | x::L,a,h=>by
   rw [List.foldl_cons]
   have h1:0<=(addOne one a x).1/\(addOne one a x).1<=a.1+1:=by
    unfold addOne
    cases one&&decide (0<a.1) <;> simp <;> omega
   have:=addOne_le one L (addOne one a x) h1.1
   simp only [List.length_cons]
   omega
section
variable {S:List Spec} {h:List Call} {must:Call->Call->Bool}
def closed (must:Call->Call->Bool) (h:List Call) (m:Nat):Prop := ∀ (k i:Nat) (c d:Call),h[k]?=some c->h[i]?=some d->m.testBit i=true->m.testBit k=false->must c d=false
def dead (must:Call->Call->Bool) (h:List Call) (m:Nat):Prop := ∃ (k i:Nat) (c d:Call),h[k]?=some c/\h[i]?=some d/\m.testBit i=true/\m.testBit k=false/\0<c.to/\must c d=true
theorem closed_ins {m i:Nat} {c:Call} (hcl:closed must h m) (hc:h[i]?=some c) (hf:freeM h must m i c=true):closed must h (ins m i):=by
 intro k j c1 d1 hk hj hb1 hb2
 rw [ins_test,Bool.or_eq_true] at hb1
 rw [ins_test,Bool.or_eq_false_iff] at hb2
 rcases hb1 with hb | hb
 ·exact hcl k j c1 d1 hk hj hb hb2.1
 ·have hij:i=j:=by simpa using hb
  subst hij
  rw [hc] at hj;cases hj
  simp only [freeM,zp4,List.all_eq_true,List.mem_range] at hf
  have:=hf.2 k (zp2.1 hk).1
  rw [hb2.1,hk] at this
  simpa using this
theorem dead_ins {m i:Nat} {c:Call} (hm:MustOk must h) (hc:h[i]?=some c) (ht:m.testBit i=false) (hf:freeM h must m i c=false):dead must h (ins m i):=by
 simp only [freeM,ht,Bool.not_false,Bool.true_and] at hf
 rw [List.all_eq_false] at hf
 obtain ⟨k,hk,hb⟩:=hf
 have hk:=List.mem_range.1 hk
 have hd:=zp1 hk
 have hdm:=zp6 hk
 generalize h[k]=d at hd hdm
 rw [hd] at hb
 simp only [Option.map_some,Option.getD_some,Bool.or_eq_true,not_or,Bool.not_eq_true',Bool.not_eq_true,Bool.not_eq_false] at hb
 have hne : ¬ i=k:=by
  rintro rfl
  rw [hc] at hd;cases hd
  rw [hm.irr c hdm] at hb;exact absurd hb.2 (by simp)
 exact ⟨k,i,d,c,hd,hc,by simp [ins_test],by simp [ins_test,hb.1,hne],hm.ret d hdm c (List.mem_of_getElem? hc) hb.2,hb.2⟩
theorem dead_ends {m:Nat} (hd:dead must h m):endsM h m=false:=by
 obtain ⟨k,i,c,d,hk,hi,h1,h2,h3,h4⟩:=hd
 simp only [endsM,Bool.not_eq_false',List.any_eq_true,List.mem_range]
 exact ⟨k,(zp2.1 hk).1,by simp [hk,h2,h3]⟩
theorem isL_ends {l:List Nat} (hok : ∀ c∈h,callOk c=true) (hn:nums h (cN l)=true):isL h (cN l)=endsM h (maskL l):=by
 unfold isL full endsM
 rw [hn,Bool.true_and]
 congr 1
 refine any_congr fun i hi => ?_
 have hi:=List.mem_range.1 hi
 have hc:=zp1 hi
 have hcm:=zp6 hi
 generalize h[i]=c at hc hcm
 have:=(callOk_iff c).1 (hok c hcm)
 rw [hc,Option.map_some,Option.map_some,Option.getD_some,Option.getD_some,maskL_test]
 have e1:decide (c.to≠0)=decide (0<c.to):=by rw [decide_eq_decide];omega
 have e2:(cN l).contains (i:Int)=decide (i∈l):=by rw [Bool.eq_iff_iff];simp [cN_mem]
 rw [e1,e2]
theorem kid_none {m:Nat} {s:Int×Int} {i:Nat} (h0:nextM S h must m s i=none):kid S h must m s i=[]:=by simp [kid,h0]
theorem kid_some {m:Nat} {s:Int×Int} {i:Nat} {p:Nat×Int×Int} (h0:nextM S h must m s i=some p):kid S h must m s i=(ords S h must p.1 p.2).map (i :: ·):=by simp [kid,h0]
def accOf (S:List Spec) (h:List Call) (must:Call->Call->Bool) (l:List Nat) (one:Bool) (a:Int×List Nat) (i:Nat):Int×List Nat:=(((List.range i).flatMap (kid S h must (maskL l) (runL S h l))).map (l ++ ·)).foldl (addOne one) a
theorem accOf_succ (l:List Nat) (one:Bool) (a:Int×List Nat) (i:Nat):accOf S h must l one a (i+1)=((kid S h must (maskL l) (runL S h l) i).map (l ++ ·)).foldl (addOne one) (accOf S h must l one a i):=by
 unfold accOf
 rw [List.range_succ,List.flatMap_append,List.map_append,List.foldl_append]
 simp
theorem accOf_more (l:List Nat) (one:Bool) (a:Int×List Nat) {i n:Nat} (hin:i<=n) (hs:(one&&decide (0<(accOf S h must l one a i).1))=true):accOf S h must l one a n=accOf S h must l one a i:=by
 obtain ⟨k,rfl⟩ : ∃ k,n=i+k:=⟨n-i,by omega⟩
 have:accOf S h must l one a (i+k)=List.foldl (addOne one) (accOf S h must l one a i) ((((List.range k).map (i + ·)).flatMap (kid S h must (maskL l) (runL S h l))).map (l ++ ·)):=by
  unfold accOf
  rw [List.range_add,List.flatMap_append,List.map_append,List.foldl_append]
 rw [this]
 exact addOne_stop hs _
theorem from_ok (ha:areS S=true) (hl:h.length<=8) (hok : ∀ c∈h,callOk c=true/\callIn S c) (hm:MustOk must h) (thr:Bool)
  (hkeep : ∀ l:List Int,l.length<Lg->(∀ x∈l,inH h x=true)->(bif thr then Z139a Ar.std (eCalls h) (eInts l) else Z140a Ar.std (eCalls h) (eInts l))=some (keepsL must h l)) :
  ∀ (n:Nat) (l:List Nat) (one:Bool) (found:Int) (first:List Nat),room h (maskL l)<n->nums h (cN l)=true->stOk S (runL S h l)->allowsL S h (cN l)=true->keepsL must h (cN l)=true ->
    (one&&decide (0<found))=false->0<=found ->
    (closed must h (maskL l)->found+((ords S h must (maskL l) (runL S h l)).length:Int)<2000000000->Z93R Ar.std n (eNats l) one (eSpecs S) (eCalls h) thr found (eNats first) =
     some (thr,(((ords S h must (maskL l) (runL S h l)).map (l ++ ·)).foldl (addOne one) (found,first)).1,eNats (((ords S h must (maskL l) (runL S h l)).map (l ++ ·)).foldl (addOne one) (found,first)).2)) /\
    (dead must h (maskL l)->Z93R Ar.std n (eNats l) one (eSpecs S) (eCalls h) thr found (eNats first)=some (thr,found,eNats first)):=by
 intro n
 induction n with
 | zero=>intro l one found first hr;omega
 | succ n ih =>
   intro l one found first hr hn hst hal hkp hone hf0
   have hrange : ∀ x∈cN l,inH h x=true:=(nums_iff.1 hn).1
   have hlt8 : ∀ i∈l,i<8:=fun i hi=>by
    have:=inH_iff.1 (hrange (i:Int) (cN_mem.2 hi));omega
   have hm8:=maskL_lt hlt8
   have hll:l.length<=8:=by have:=nums_len hn;simp only [cN,List.length_map] at this;omega
   have hllg : ∀ i:Nat,(cN (l++[i])).length<Lg:=fun i=>by
    have:(cN (l++[i])).length=l.length+1:=by simp [cN]
    rw [this];exact (by omega:l.length+1<9223372036854775808)
   have hisl:Z136a Ar.std (eCalls h) (eNats l)=some (endsM h (maskL l)):=by
    rw [eNats_eq,Z136a_eq (by omega) (cN l) (by
     have:(cN l).length=l.length:=by simp [cN]
     rw [this];exact (by omega:l.length<9223372036854775808)),isL_ends (fun c hc=>(hok c hc).1) hn]
   have hcopy:ap Ar.std [] (eNats l)=some (eNats l):=ap_enc0 (by simp;omega)

   have hstep : ∀ (i:Nat) (c:Call),h[i]?=some c->((Z137a Ar.std (eNats l) (i:Int)).bind fun r79 =>
     bif r79 then some (false,thr) else (Z138a Ar.std (eSpecs S) (eCalls h) (eNats (l++[i]))).bind fun r82 =>
      bif r82 then bif thr then (Z139a Ar.std (eCalls h) (eNats (l++[i]))).bind fun r86=>bif r86 then some (true,true) else some (false,true)
       else (Z140a Ar.std (eCalls h) (eNats (l++[i]))).bind fun r89=>some (r89,false) else some (false,thr)) =
     some (!(maskL l).testBit i&&(okS S c (runL S h l) && !(cN l).any fun y=>must c (hc h y)),thr):=by
    intro i c hci
    have hi:i<h.length:=(zp2.1 hci).1
    have hic:inH h (i:Int)=true:=inH_iff.2 ⟨by omega,by omega⟩
    have hhc:=hc_nat hci
    have hin2 : ∀ x∈cN (l++[i]),inH h x=true:=by
     intro x hx
     rw [cN_snoc,List.mem_append,List.mem_singleton] at hx
     rcases hx with hx | rfl
     ·exact hrange x hx
     ·exact hic
    have e1:Z137a Ar.std (eNats l) (i:Int)=some ((maskL l).testBit i):=by
     rw [eNats_eq,Z137a_eq (cN l) (by
      have:(cN l).length=l.length:=by simp [cN]
      rw [this];exact (by omega:l.length<9223372036854775808)),maskL_test]
     exact congrArg some (by rw [Bool.eq_iff_iff];simp [cN_mem])
    have e2:Z138a Ar.std (eSpecs S) (eCalls h) (eNats (l++[i]))=some (okS S c (runL S h l)):=by
     rw [eNats_eq,Z138a_eq ha hok _ (hllg i) hin2,allowsL_snoc,hal,hhc,Bool.true_and]
    have e3:=hkeep (cN (l++[i])) (hllg i) hin2
    rw [cN_snoc,keepsL_snoc,hkp,Bool.true_and,hhc,<-cN_snoc,<-eNats_eq] at e3
    rw [e1,e2]
    simp only [bsome]
    cases (maskL l).testBit i with
    | true=>simp
    | false =>
      cases okS S c (runL S h l) with
      | false=>simp
      | true =>
        cases thr with
        | true=>simp only [cond_true,cond_false] at e3 ⊢;rw [e3];simp only [bsome];cases (cN l).any _ <;> rfl
        | false=>simp only [cond_true,cond_false] at e3 ⊢;rw [e3];simp only [bsome];cases (cN l).any _ <;> rfl

   have hloop : ∀ (acc:Nat->Int×List Nat),(∀ i,i<h.length->(one&&decide (0<(acc i).1))=false -> ∀ c,h[i]?=some c ->
      ((!(maskL l).testBit i&&(okS S c (runL S h l) && !(cN l).any fun y=>must c (hc h y)))=false->acc (i+1)=acc i) /\
      ((!(maskL l).testBit i&&(okS S c (runL S h l) && !(cN l).any fun y=>must c (hc h y)))=true->Z93R Ar.std n (eNats (l++[i])) one (eSpecs S) (eCalls h) thr (acc i).1 (eNats (acc i).2)=some (thr,(acc (i+1)).1,eNats (acc (i+1)).2))) ->
     (∀ i,i<=h.length->(one&&decide (0<(acc i).1))=true->acc h.length=acc i) ->
     iter (Z93L0 Ar.std (eNats l) (eSpecs S) (eCalls h) (Z93R Ar.std n)) (one,0,thr,(acc 0).1,eNats (acc 0).2)=some (thr,(acc h.length).1,eNats (acc h.length).2):=by
    intro acc h1 h2
    have:=iter_relE (step:=Z93L0 Ar.std (eNats l) (eSpecs S) (eCalls h) (Z93R Ar.std n)) h.length (fun (q:Int×List Nat) i=>(one,(i:Int),thr,q.1,eNats q.2)) (fun i q=>q=acc i)
     (fun i x=>x=(thr,(acc h.length).1,eNats (acc h.length).2)) (fun q=>(thr,q.1,eNats q.2))
     (fun i q hi hq=>by
      subst hq
      have hci:=zp1 hi
      generalize h[i]=c at hci
      have hsti:=hstep i c hci
      simp only [Z93L0,std_zlt,len_enc,ltC hi,cond_true]
      cases hstop:one&&decide (0<(acc i).1) with
      | true =>
        rw [zp4] at hstop
        refine .inr ⟨_,rfl,?_⟩
        rw [h2 i (by omega) (by rw [hstop.1,hstop.2];rfl)]
        simp only [hstop.1,hstop.2,cond_true,Bool.not_true,bsome,cond_false]
      | false =>
        refine .inl ⟨_,rfl,?_⟩
        obtain ⟨q1,q2⟩:=h1 i hi hstop c hci
        have hcond:(bif one then some (true,!decide (0<(acc i).1)) else some (false,true))=some (one,true):=by
         cases one with
         | false=>rfl
         | true=>rw [Bool.true_and] at hstop;rw [hstop];rfl
        rw [hcond,bsome]
        dsimp only
        rw [cond_true,hcopy,bsome,ap_nat (show l.length<4294967295 by omega),bsome,hsti,bsome]
        dsimp only
        cases hgo:(!(maskL l).testBit i&&(okS S c (runL S h l) && !(cN l).any fun y=>must c (hc h y))) with
        | false =>
          rw [cond_false,bsome,std_wrp,std_zadd,wrap1 hi (show h.length<9223372036854775808 by omega),q1 hgo]
        | true =>
          rw [cond_true,q2 hgo,bsome,bsome,std_wrp,std_zadd,wrap1 hi (show h.length<9223372036854775808 by omega)])
     (fun q hq=>by
      subst hq
      simp only [Z93L0,std_zlt,len_enc,show decide ((h.length:Int)<(h.length:Int))=false by simp,cond_false,bsome]) (acc 0) rfl
    rcases this with ⟨q,rfl,e⟩ | ⟨i,x,_,rfl,e⟩
    ·exact e
    ·exact e
   have hunf:Z93R Ar.std (n+1) (eNats l) one (eSpecs S) (eCalls h) thr found (eNats first)=Z93B Ar.std (Z93R Ar.std n) (eNats l) one (eSpecs S) (eCalls h) thr found (eNats first):=rfl
   rw [hunf]
   unfold Z93B
   rw [hisl]

   have hchild : ∀ (i:Nat) (c:Call),h[i]?=some c->(!(maskL l).testBit i&&(okS S c (runL S h l) && !(cN l).any fun y=>must c (hc h y)))=true ->
     room h (maskL (l++[i]))<n/\nums h (cN (l++[i]))=true/\stOk S (runL S h (l++[i]))/\allowsL S h (cN (l++[i]))=true/\keepsL must h (cN (l++[i]))=true:=by
    intro i c hci hgo
    simp only [zp4] at hgo
    obtain ⟨g1,g2,g3⟩:=hgo
    have hi:i<h.length:=(zp2.1 hci).1
    have ht:(maskL l).testBit i=false:=by simpa using g1
    have hhc:=hc_nat hci
    refine ⟨?_,?_,?_,?_,?_⟩
    ·rw [maskL_snoc];have:=room_ins hi ht;omega
    ·rw [cN_snoc,nums_iff]
     obtain ⟨n1,n2⟩:=nums_iff.1 hn
     refine ⟨fun x hx => ?_,?_⟩
     ·rw [List.mem_append,List.mem_singleton] at hx
      rcases hx with hx | rfl
      ·exact n1 x hx
      ·exact inH_iff.2 ⟨by omega,by omega⟩
     ·rw [List.nodup_append]
      refine ⟨n2,by simp,fun x hx y hy => ?_⟩
      rw [List.mem_singleton] at hy
      subst hy
      rintro rfl
      rw [maskL_test] at ht
      have:=cN_mem.1 hx
      simp [this] at ht
    ·rw [runL_snoc,hhc];exact doS_ok (hok c (List.mem_of_getElem? hci)).2 hst
    ·rw [allowsL_snoc,hal,hhc,g2];rfl
    ·rw [cN_snoc,keepsL_snoc,hkp,hhc];simpa using g3
   constructor
   ·intro hcl hbound
    have hords:=ords_eq S h must (maskL l) (runL S h l)
    have hown:(((ords S h must (maskL l) (runL S h l)).map (l ++ ·)).foldl (addOne one) (found,first))=accOf S h must l one (bif endsM h (maskL l) then (found+1,bif decide (found=0) then l else first) else (found,first)) h.length:=by
     rw [hords,List.map_append,List.foldl_append]
     unfold accOf
     refine congrArg (fun z=>List.foldl (addOne one) z _) ?_
     cases endsM h (maskL l) with
     | false=>rfl
     | true=>simp [addOne,hone]
    rw [hown]
    have hlen:=ords_len S h must (maskL l) (runL S h l)
    have hpart : ∀ i,i<=h.length->(((List.range i).flatMap (kid S h must (maskL l) (runL S h l))).map (l ++ ·)).length<=((List.range h.length).map (contr S h must (maskL l) (runL S h l))).sum:=by
     intro i hi
     rw [List.length_map,List.length_flatMap]
     refine Nat.le_trans (Nat.le_of_eq ?_) (sum_le (f:=contr S h must (maskL l) (runL S h l)) hi)
     exact congrArg List.sum (List.map_congr_left fun j _=>kid_len S h must _ _ j)
    generalize ha0:(bif endsM h (maskL l) then (found+1,bif decide (found=0) then l else first) else (found,first):Int×List Nat)=a0 at hown ⊢
    have ha0':0<=a0.1/\a0.1=found+(bif endsM h (maskL l) then 1 else 0:Int):=by
     rw [<-ha0];cases endsM h (maskL l) <;> simp <;> omega
    have hL:=hloop (accOf S h must l one a0) (fun i hi hstop c hci=>by
     refine ⟨fun hgo => ?_,fun hgo => ?_⟩
     ·rw [accOf_succ]
      have:nextM S h must (maskL l) (runL S h l) i=none:=by
       unfold nextM
       rw [hci]
       simp only [Option.bind_some]
       cases hf:freeM h must (maskL l) i c with
       | false=>rfl
       | true =>
         have ht:(maskL l).testBit i=false:=by simp only [freeM,zp4] at hf;simpa using hf.1
         have hno:(cN l).any (fun y=>must c (hc h y))=false:=by
          rw [List.any_eq_false]
          intro y hy
          obtain ⟨j,hj,rfl⟩:=List.mem_map.1 hy
          have hjr:=hrange _ hy
          have:=hcl i j c (hc h (j:Int)) hci (by have:=hc_get hjr;simpa using this) (by rw [maskL_test];simpa using hj) ht
          simp [this]
         rw [ht,hno] at hgo
         simp at hgo
         simp [hgo]
      rw [kid_none this];rfl
     ·obtain ⟨c1,c2,c3,c4,c5⟩:=hchild i c hci hgo
      simp only [zp4] at hgo
      have ht:(maskL l).testBit i=false:=by simpa using hgo.1
      have hhc:=hc_nat hci
      have hbd:0<=(accOf S h must l one a0 i).1/\(accOf S h must l one a0 i).1+((kid S h must (maskL l) (runL S h l) i).length:Int)<2000000000:=by
       have h3:=addOne_le one (((List.range i).flatMap (kid S h must (maskL l) (runL S h l))).map (l ++ ·)) a0 ha0'.1
       have h4:=hpart (i+1) hi
       rw [List.range_succ,List.flatMap_append,List.map_append,List.length_append] at h4
       simp only [List.flatMap_cons,List.flatMap_nil,List.append_nil,List.length_map] at h4
       simp only [List.length_map] at h3
       refine ⟨h3.1,?_⟩
       have h5:(accOf S h must l one a0 i).1<=a0.1+((((List.range i).flatMap (kid S h must (maskL l) (runL S h l))).length:Nat):Int):=h3.2
       rw [ha0'.2] at h5
       cases he:endsM h (maskL l) <;> simp only [he,cond_true,cond_false] at hlen h5 <;> omega
      cases hf:freeM h must (maskL l) i c with
      | false =>
        have hnone:nextM S h must (maskL l) (runL S h l) i=none:=by simp [nextM,hci,hf]
        rw [accOf_succ,kid_none hnone,List.map_nil,List.foldl_nil]
        have hdead:dead must h (maskL (l++[i])):=by rw [maskL_snoc];exact dead_ins hm hci ht hf
        exact (ih (l++[i]) one _ _ c1 c2 c3 c4 c5 hstop hbd.1).2 hdead
      | true =>
        have hsome:nextM S h must (maskL l) (runL S h l) i=some (ins (maskL l) i,doS S c (runL S h l)):=by simp [nextM,hci,hf,hgo.2.1]
        have hkid:=kid_some (S:=S) hsome
        rw [accOf_succ,hkid]
        have hcl2:closed must h (maskL (l++[i])):=by rw [maskL_snoc];exact closed_ins hcl hci hf
        have hrun:runL S h (l++[i])=doS S c (runL S h l):=by rw [runL_snoc,hhc]
        have:=(ih (l++[i]) one (accOf S h must l one a0 i).1 (accOf S h must l one a0 i).2 c1 c2 c3 c4 c5 hstop hbd.1).1 hcl2 (by
         rw [maskL_snoc,hrun]
         have h7:=hbd.2
         rw [hkid,List.length_map] at h7;exact h7)
        rw [this,maskL_snoc,hrun,List.map_map]
        have hfun:(fun x=>l++[i]++x)=((fun x=>l++x)∘fun x=>i::x):=by funext x;simp
        rw [hfun])
     (fun i hi hs=>accOf_more l one a0 hi hs)
    have h00:accOf S h must l one a0 0=a0:=rfl
    rw [h00] at hL
    simp only [bsome]
    have hfw:IntKind.i64.wrap (found+1)=found+1:=i64w _ (by omega) (by omega)
    cases he:endsM h (maskL l) with
    | false =>
      rw [he] at ha0
      simp only [cond_false] at ha0 ⊢
      subst ha0
      simp only [bsome,hL]
    | true =>
      rw [he] at ha0
      simp only [cond_true] at ha0 ⊢
      subst ha0
      have hfirst:(bif decide (found=0) then some (eNats l) else some (eNats first))=some (eNats (bif decide (found=0) then l else first)):=by cases decide (found=0) <;> rfl
      simp only [std_zeq,hcopy,bsome,hfirst,std_wrp,std_zadd,hfw,hL]
   ·intro hd
    have hends:=dead_ends hd
    have hL:=hloop (fun _=>(found,first)) (fun i hi hstop c hci=>⟨fun _=>rfl,fun hgo=>by
     obtain ⟨c1,c2,c3,c4,c5⟩:=hchild i c hci hgo
     have hd2:dead must h (maskL (l++[i])):=by
      obtain ⟨k,j,c0,d0,hk,hj,b1,b2,b3,b4⟩:=hd
      refine ⟨k,j,c0,d0,hk,hj,by rw [maskL_snoc,ins_test,b1];rfl,?_,b3,b4⟩
      rw [maskL_snoc,ins_test,b2,Bool.false_or,decide_eq_false_iff_not]
      rintro rfl
      rw [hci] at hk;cases hk
      simp only [zp4,Bool.not_eq_true',List.any_eq_false] at hgo
      rw [maskL_test] at b1
      have:=hgo.2.2 (j:Int) (cN_mem.2 (by simpa using b1))
      rw [hc_nat hj,b4] at this
      exact this rfl
     exact (ih (l++[i]) one found first c1 c2 c3 c4 c5 hone hf0).2 hd2⟩) (fun _ _ _=>rfl)
    simp only [bsome,hends,cond_false,hL]
end
end Go.Am

namespace Go.Am
open Go
theorem from_root {S:List Spec} {h:List Call} {must:Call->Call->Bool} (ha:areS S=true) (hl:h.length<=8) (hok : ∀ c∈h,callOk c=true/\callIn S c) (hm:MustOk must h) (thr:Bool)
  (hkeep : ∀ l:List Int,l.length<Lg->(∀ x∈l,inH h x=true)->(bif thr then Z139a Ar.std (eCalls h) (eInts l) else Z140a Ar.std (eCalls h) (eInts l))=some (keepsL must h l)) (one:Bool) :
  Z93 Ar.std [] one (eSpecs S) (eCalls h) thr 0 []=some (thr,(((ords S h must 0 (0,0))).foldl (addOne one) (0,[])).1,eNats ((ords S h must 0 (0,0)).foldl (addOne one) (0,[])).2):=by
 have hr:room h (maskL [])<fuel:=by
  have:=List.countP_le_length (p:=fun i => !(maskL []).testBit i) (l:=List.range h.length)
  rw [List.length_range] at this
  rw [fuel_eq];unfold room;omega
 have hb:=ords_lt S h must hl 0 (0,0)
 have:=(from_ok ha hl hok hm thr hkeep fuel [] one 0 [] hr rfl (stOk_zero ha) rfl rfl (by cases one <;> rfl) (Int.le_refl _)).1
  (fun k i c d _ _ hb _=>by simp [maskL] at hb) (by
   show (0:Int)+((ords S h must 0 (0,0)).length:Int)<2000000000
   omega)
 have e:((ords S h must (maskL []) (runL S h [])).map ([] ++ ·))=ords S h must 0 (0,0):=by
  show (ords S h must 0 (0,0)).map _=_
  simp
 rw [e] at this
 exact this
theorem foldl_one : ∀ (L:List (List Nat)),L.foldl (addOne true) (0,[])=match L with | []=>(0,[]) | x::_=>(1,x)
 | []=>rfl
 | x::L=>by
   rw [List.foldl_cons]
   show L.foldl (addOne true) (1,x)=(1,x)
   exact addOne_stop rfl L
section
variable (S:List Spec) (h:List Call) (hs:SpecsOk S) (hl:h.length<Lg)
include hs hl
theorem Z50_eq:Z50 Ar.std (eSpecs S) (eCalls h)=some (eNats (orderR S h).1,(orderR S h).2):=by
 simp only [Z50,Z92_eq S h hs hl,bsome,std_zeq,orderR]
 by_cases he:errH S h=0
 ·obtain ⟨ha,hf⟩:=errH_zero he
  obtain ⟨h8,hok⟩:=forH_in ha hf
  have e:=from_root (S:=S) (h:=h) (must:=bef) ha h8 hok (bef_must fun c hc=>(hok c hc).1) false (fun l hll hin=>Z140a_eq l hll hin) true
  simp only [he,decide_true,cond_true,e,bsome,foldl_one,ords0]
  cases ords S h bef 0 (0,0) with
  | nil=>simp [eNats]
  | cons l r=>simp
 ·simp [he,eNats]
theorem Z14_eq:Z14 Ar.std (eSpecs S) (eCalls h)=some (decide (errH S h=0) && !(ords0 S h).isEmpty,errH S h):=by
 simp only [Z14,Z50_eq S h hs hl,bsome,std_zeq,orderR]
 by_cases he:errH S h=0
 ·simp only [he,decide_true,cond_true,Bool.true_and]
  cases ords0 S h <;> simp
 ·have h5 : ¬ errH S h=5:=by unfold errH;cases areS S <;> cases forH S h <;> simp
  simp [he,h5]
end
end Go.Am
