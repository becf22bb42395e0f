import Derived.Test.YtkjeamngjnfpkaaGreatZH3
import Derived.Test.YtkjeamngjnfpkaaGreatAmBit
set_option maxRecDepth 100000
set_option linter.unusedVariables false
set_option linter.unusedSimpArgs false
namespace Go.Am
open Go
def b6m (S:List Spec) (c:Call):Spec:=S.getD c.ob.toNat (0,0,[],[])
def a3r (c:Call) (s:Int×Int):Int:=bif decide (c.ob=0) then s.1 else s.2
def doS (S:List Spec) (c:Call) (s:Int×Int):Int×Int:=bif decide (c.ob=0) then (nx (b6m S c).2.2.1 (a3r c s) c.op,s.2) else (s.1,nx (b6m S c).2.2.1 (a3r c s) c.op)
def okS (S:List Spec) (c:Call) (s:Int×Int):Bool:=decide (c.to=0)||decide (nx (b6m S c).2.2.2 (a3r c s) c.op=c.sa)
def b5k (S:List Spec) (s:Int×Int):Prop:=(∀ x,S[0]?=some x->0<=s.1/\s.1<x.1) /\ ∀ x,S[1]?=some x->0<=s.2/\s.2<x.1
def a4h (S:List Spec) (c:Call):Prop:=(c.ob=0\/c.ob=1) /\ ∃ x,S[c.ob.toNat]?=some x/\a0P x=true/\0<=c.op/\c.op<x.2.1
theorem a5C {S:List Spec} {c:Call} (hc:a4h S c) {s:Int×Int} (hs:b5k S s) : ∃ x,S[c.ob.toNat]?=some x/\b6m S c=x/\a0P x=true/\0<=a3r c s/\a3r c s<x.1/\0<=c.op/\c.op<x.2.1:=by
 obtain ⟨hob,x,hx,hsx,h1,h2⟩:=hc;refine ⟨x,hx,by simp [b6m,List.getD_eq_getElem?_getD,hx],hsx,?_⟩;rcases hob with h | h
 ·have q:=hs.1 x (by rw [h] at hx;exact hx);simp only [a3r,h,decide_true,cond_true];exact ⟨q.1,q.2,h1,h2⟩
 have q:=hs.2 x (by rw [h] at hx;exact hx);have hz:decide ((1:Int)=0)=false:=rfl;simp only [a3r,h,hz,cond_false];exact ⟨q.1,q.2,h1,h2⟩
theorem b4F {S:List Spec} {c:Call} (hc:a4h S c) {s:Int×Int} (hs:b5k S s):b5k S (doS S c s):=by
 obtain ⟨x,hx,e,hsx,h1,h2,h3,h4⟩:=a5C hc hs;obtain ⟨_,_,t1,_⟩:=(a2i x).1 hsx;obtain ⟨r,_,_,g3,g4⟩:=a4M t1 h1 h2 h3 h4;unfold doS;rw [e];rcases hc.1 with h | h
 ·simp only [h,decide_true,cond_true];refine ⟨fun y hy => ?_,hs.2⟩;rw [h] at hx;have:y=x:=by have:=hx.symm.trans (show S[(0:Int).toNat]?=some y from hy);exact (Option.some.inj this).symm
  subst this;exact ⟨g3,by omega⟩
 have hz:decide ((1:Int)=0)=false:=rfl;simp only [h,hz,cond_false];refine ⟨hs.1,fun y hy => ?_⟩;rw [h] at hx;have:y=x:=by have:=hx.symm.trans (show S[(1:Int).toNat]?=some y from hy);exact (Option.some.inj this).symm
 subst this;exact ⟨g3,by omega⟩
theorem b6n {S:List Spec} {c:Call} (hc:a4h S c) {s:Int×Int} (hs:b5k S s):b2T Ar.std s.1 s.2 (a0E S) c.1 c.2.1 c.2.2.1 c.2.2.2.1 c.2.2.2.2.1 c.2.2.2.2.2=some ((doS S c s).1,(doS S c s).2,okS S c s):=by
 obtain ⟨x,hx,e,hsx,h1,h2,h3,h4⟩:=a5C hc hs;obtain ⟨_,_,t1,t2⟩:=(a2i x).1 hsx;obtain ⟨r,g1,g2,g3,g4⟩:=a4M t1 h1 h2 h3 h4;obtain ⟨q,k1,k2,k3,k4⟩:=a4M t2 h1 h2 h3 h4;have hob:0<=c.2.1:=by rcases hc.1 with h | h <;> simp only [Call.ob] at h <;> omega
 have e1:=a4q (l:=S) hob hx;have e2:=a1O h1 g1;have e3:=a1R (c:=cI .i64) (l:=r) h3 g2;have e4:=a1O h1 k1;have e5:=a1R (c:=cI .i64) (l:=q) h3 k2;simp only [b2T,e1,a0l,a0F];rcases hc.1 with h | h
 ·simp only [Call.ob] at h;simp only [a3r,Call.ob,h,decide_true,cond_true] at e2 e3 e4 e5;simp only [h,decide_true,cond_true,a0l,e2,e3,e4,e5,a0O,doS,okS,Call.ob,e,a3r];cases decide (c.2.2.2.2.2=0) <;> simp
 simp only [Call.ob] at h;have hz:decide ((1:Int)=0)=false:=rfl;simp only [a3r,Call.ob,h,hz,cond_false] at e2 e3 e4 e5;simp only [h,hz,decide_true,cond_true,cond_false,a0l,e2,e3,e4,e5,a0O,doS,okS,Call.ob,e,a3r];cases decide (c.2.2.2.2.2=0) <;> simp
theorem b4G {S:List Spec} {h:List Call} (ha:a6Y S=true) (hf:b1z S h=true):h.length<=8 /\ ∀ c∈h,a1r c=true/\a4h S c:=by
 simp only [b1z,zp4,List.all_eq_true] at hf;simp only [a6Y,zp4,a0n,List.all_eq_true] at ha;obtain ⟨h1,h2⟩:=a5b hf.1;refine ⟨h1,fun c hc=>⟨h2 c hc,?_⟩⟩;have hcc:=(a0Q c).1 (h2 c hc);refine ⟨by omega,?_⟩;have:=hf.2 c hc;unfold b5j at this;cases hx:S[c.ob.toNat]? with
 | none=>rw [hx] at this;cases this
 | some x =>
   rw [hx] at this;exact ⟨x,rfl,ha.2 x (List.mem_of_getElem? hx),hcc.2.2.1.1,by simpa using this⟩
theorem a6Z {S:List Spec} (ha:a6Y S=true):b5k S (0,0):=by
 simp only [a6Y,zp4,a0n,List.all_eq_true] at ha;constructor <;> intro x hx <;> have:=((a2i x).1 (ha.2 x (List.mem_of_getElem? hx))).1 <;> (refine ⟨by decide,?_⟩) <;> show (0:Int)<x.1 <;> omega
section
variable (S:List Spec) (h:List Call) (must:Call->Call->Bool)
def a1L (m:Nat):Bool := !(List.range h.length).any fun i=>(h[i]?.map fun c=>decide (0<c.to) && !m.testBit i).getD false
def a4w (m i:Nat) (c:Call):Bool := !m.testBit i&&(List.range h.length).all fun k=>m.testBit k||(h[k]?.map fun d => !must d c).getD true
def a1I (m:Nat) (s:Int×Int) (i:Nat):Option (Nat×Int×Int):=h[i]?.bind fun c=>bif a4w h must m i c&&okS S c s then some (ins m i,doS S c s) else none
def dfs:Nat->Nat->Int×Int->List (List Nat)
 | 0,m,s=>bif a1L h m then [[]] else []
 | f+1,m,s=>(bif a1L h m then [[]] else [])++(List.range h.length).flatMap fun i=>((a1I S h must m s i).map fun p=>(dfs f p.1 p.2).map (i :: ·)).getD []
def room (m:Nat):Nat:=(List.range h.length).countP fun i => !m.testBit i
def a3Q (m:Nat) (s:Int×Int):List (List Nat):=dfs S h must (room h m) m s
end
theorem b2x {p p':Nat->Bool} {i:Nat} {l:List Nat} (hn:l.Nodup) (hi:i∈l) (hp:p i=true) (hp':p' i=false) (hne : ∀ k,k≠i->p' k=p k):l.countP p'+1=l.countP p:=by
 induction l with
 | nil=>simp at hi
 | cons k r ih =>
   simp only [List.nodup_cons] at hn;simp only [List.countP_cons];by_cases hk:k=i
   ·subst hk;have:r.countP p'=r.countP p:=List.countP_congr fun q hq=>by rw [hne q (by rintro rfl;exact hn.1 hq)]
    simp [hp,hp',this]
   have hir:i∈r:=by rcases List.mem_cons.1 hi with h | h;exact absurd h.symm hk;exact h
   have:=ih hn.2 hir;rw [hne k hk];omega
theorem a6g {h:List Call} {m i:Nat} (hi:i<h.length) (hm:m.testBit i=false):room h (ins m i)+1=room h m:=by
 refine b2x List.nodup_range (List.mem_range.2 hi) (by simp [hm]) (by simp [a2D]) fun k hk => ?_;have : ¬ i=k:=fun e=>hk e.symm;simp [a2D,this]
theorem a4r {S:List Spec} {h:List Call} {must:Call->Call->Bool} {m:Nat} {s:Int×Int} {i:Nat} {p:Nat×Int×Int} (hp:a1I S h must m s i=some p) :
  ∃ c,h[i]?=some c/\i<h.length/\m.testBit i=false/\a4w h must m i c=true/\okS S c s=true/\p=(ins m i,doS S c s):=by
 unfold a1I at hp;cases hc:h[i]? with
 | none=>rw [hc] at hp;cases hp
 | some c =>
   rw [hc] at hp;simp only [Option.bind_some] at hp;cases hf:a4w h must m i c <;> cases ho:okS S c s <;> simp [hf,ho] at hp;refine ⟨c,rfl,(zp2.1 hc).1,?_,hf,ho,hp.symm⟩;simp only [a4w,zp4] at hf;simpa using hf.1
theorem a8x (S:List Spec) (h:List Call) (must:Call->Call->Bool) (m:Nat) (s:Int×Int) :
  a3Q S h must m s=(bif a1L h m then [[]] else [])++(List.range h.length).flatMap fun i=>((a1I S h must m s i).map fun p=>(a3Q S h must p.1 p.2).map (i :: ·)).getD []:=by
 have hstep : ∀ i,((a1I S h must m s i).map fun p=>(a3Q S h must p.1 p.2).map (i :: ·))=(a1I S h must m s i).map fun p=>(dfs S h must (room h m-1) p.1 p.2).map (i :: ·):=by
  intro i;cases hn:a1I S h must m s i with
  | none=>rfl
  | some p =>
    obtain ⟨c,hc,hi,ht,_,_,rfl⟩:=a4r hn;have:=a6g hi ht;simp only [Option.map_some,a3Q];rw [show room h (ins m i)=room h m-1 by omega]
 unfold a3Q at hstep ⊢;cases hr:room h m with
 | zero =>
   have : ∀ i∈List.range h.length,((a1I S h must m s i).map fun p=>(dfs S h must (room h p.1) p.1 p.2).map (i :: ·)).getD []=[]:=by
    intro i hi;cases hn:a1I S h must m s i with
    | none=>rfl
    | some p =>
      obtain ⟨c,hc,hi,ht,_,_,rfl⟩:=a4r hn;have:=a6g hi ht;omega
   rw [a9C this];simp [dfs]
 | succ f =>
   rw [hr] at hstep;simp only [Nat.add_sub_cancel] at hstep;simp only [dfs,hstep]
theorem a8y {m i:Nat} (hm:m<256) (hi:i<=8):b0f Ar.std (m:Int) (i:Int)=some (m.testBit i):=by
 have h0:decide ((i:Int)<0)=false:=by simp
 simp only [b0f,a0x,h0,b1p,a0l,a0F,b5X,b8h,c1t m i hm hi]
def b6o (m:Nat) (s:Int×Int):D := .agg [.int .u8 m,.int .i64 s.1,.int .i64 s.2]
theorem b6p {m m':Nat} {s s':Int×Int} (h:b6o m s=b6o m' s'):m=m'/\s=s':=by
 simp only [b6o,D.agg.injEq,List.cons.injEq,D.int.injEq,true_and,and_true] at h;exact ⟨by omega,Prod.ext h.2.1 h.2.2⟩
def a5W (S:List Spec) (h:List Call) (must:Call->Call->Bool) (mp:List (D×D)):Prop := ∀ (m:Nat) (s:Int×Int) (v:D),Am.mget mp (b6o m s)=some v->v = .int .i64 ((a3Q S h must m s).length:Int)
theorem a5W.nil (S:List Spec) (h:List Call) (must:Call->Call->Bool):a5W S h must []:=fun m s v hv=>by simp [Am.mget] at hv
theorem a5W.put {S:List Spec} {h:List Call} {must:Call->Call->Bool} {mp:List (D×D)} (hg:a5W S h must mp) (m:Nat) (s:Int×Int):a5W S h must (Am.mput mp (b6o m s) (.int .i64 ((a3Q S h must m s).length:Int))):=by
 intro m' s' v hv;rw [a9k] at hv;split at hv
 ·rename_i e;obtain ⟨rfl,rfl⟩:=b6p e;exact (Option.some.inj hv).symm
 exact hg m' s' v hv
def a3s (S:List Spec) (h:List Call) (must:Call->Call->Bool) (m:Nat) (s:Int×Int) (i:Nat):Nat:=((a1I S h must m s i).map fun p=>(a3Q S h must p.1 p.2).length).getD 0
theorem a8z (S:List Spec) (h:List Call) (must:Call->Call->Bool) (m:Nat) (s:Int×Int):(a3Q S h must m s).length=(bif a1L h m then 1 else 0)+((List.range h.length).map (a3s S h must m s)).sum:=by
 rw [a8x,List.length_append,List.length_flatMap];congr 1
 ·cases a1L h m <;> rfl
 congr 1;refine List.map_congr_left fun i _ => ?_;unfold a3s;cases a1I S h must m s i <;> simp
theorem b7A {f:Nat->Nat} {n:Nat} : ∀ {i:Nat},i<=n->((List.range i).map f).sum<=((List.range n).map f).sum:=by
 intro i hi;obtain ⟨k,rfl⟩ : ∃ k,n=i+k:=⟨n-i,by omega⟩;rw [List.range_add,List.map_append,List.sum_append];omega
theorem b8O (S:List Spec) (h:List Call) (must:Call->Call->Bool) (hl:h.length<=8) : ∀ (f m:Nat) (s:Int×Int),(dfs S h must f m s).length<=9 ^ (f+1):=by
 intro f
 induction f with
 | zero=>intro m s;simp only [dfs];cases a1L h m <;> simp
 | succ f ih =>
   intro m s;have hs : ∀ l:List Nat,((l.flatMap fun i=>((a1I S h must m s i).map fun p=>(dfs S h must f p.1 p.2).map (i :: ·)).getD [])).length<=l.length*9 ^ (f+1):=by
    intro l
    induction l with
    | nil=>simp
    | cons i l ihl =>
      rw [List.flatMap_cons,List.length_append,List.length_cons,Nat.succ_mul];have:(((a1I S h must m s i).map fun p=>(dfs S h must f p.1 p.2).map (i :: ·)).getD []).length<=9 ^ (f+1):=by
       cases a1I S h must m s i with
       | none=>simp
       | some p=>simpa using ih p.1 p.2
      omega
   have h1:=hs (List.range h.length);simp only [dfs,List.length_append];have h2:(bif a1L h m then [[]] else []:List (List Nat)).length<=1:=by cases a1L h m <;> simp
   have h3:(List.range h.length).length*9 ^ (f+1)<=8*9 ^ (f+1):=Nat.mul_le_mul_right _ (by simpa using hl);have h4:9 ^ (f+1+1)=9*9 ^ (f+1):=by rw [Nat.pow_succ];omega
   have h5:1<=9 ^ (f+1):=Nat.one_le_pow _ _ (by decide);omega
theorem b0K (S:List Spec) (h:List Call) (must:Call->Call->Bool) (hl:h.length<=8) (m:Nat) (s:Int×Int):(a3Q S h must m s).length<1000000000:=by
 have h1:=b8O S h must hl (room h m) m s;have h2:room h m<=8:=by
  have:=List.countP_le_length (p:=fun i => !m.testBit i) (l:=List.range h.length);unfold room;rw [List.length_range] at this;omega
 have h3:9 ^ (room h m+1)<=9 ^ 9:=Nat.pow_le_pow_right (by decide) (by omega);have h4:(9:Nat) ^ 9=387420489:=by decide
 unfold a3Q;omega
section
variable {S:List Spec} {h:List Call}
theorem b6q (hl:h.length<=8) {m:Nat} (hm:m<256) (s1 s2:Int) (mp:List (D×D)) (x:List D):b2S Ar.std (m:Int) s1 s2 mp x (a0b h)=some (a1L h m):=by
 have e:iter (a6o Ar.std (m:Int) (a0b h)) 0=some (bif (List.range h.length).any (fun i=>(h[i]?.map fun c=>decide (0<c.to) && !m.testBit i).getD false) then .inr () else .inl ()):=by
  refine a2V h.length _ _ _ (fun i hi => ?_) ?_
  ·have hc:=zp1 hi;generalize h[i]=c at hc;simp only [a6o,a0x,a0p,ltC hi,cond_true,a0t hc,a0l,a8y hm (by omega:i<=8),a0g,a0i,a0G hi (by omega),hc,Option.map_some,Option.getD_some,Call.to];cases decide (0<c.2.2.2.2.2) <;> cases m.testBit i <;> rfl
  simp [a6o]
 simp only [b2S,e,a0l,a1L];cases (List.range h.length).any _ <;> rfl
theorem b2y (hl:h.length<=8) (hok : ∀ c∈h,a1r c=true) {m:Nat} (hm:m<256) {i:Nat} {c:Call} (hi:i<=8) :
  iter (a5j Ar.std (m:Int) (a0b h) c.1 c.2.1 c.2.2.1 c.2.2.2.1 c.2.2.2.2.1 c.2.2.2.2.2) (!m.testBit i,0)=some (a4w h bef m i c):=by
 have:=b4m (step:=a5j Ar.std (m:Int) (a0b h) c.1 c.2.1 c.2.2.1 c.2.2.2.1 c.2.2.2.2.1 c.2.2.2.2.2) (List.range h.length) (fun (s:Bool) k=>(s,(k:Int))) (fun s k=>s&&(m.testBit k||(h[k]?.map fun d => !bef d c).getD true)) id
  (fun k j s hj hk=>by
   have hkj:k=j:=by rw [List.getElem?_range (by simpa using hk)] at hj;exact Option.some.inj hj
   subst hkj;have hk':k<h.length:=by simpa using hk
   have hd:=zp1 hk';have hdm:=zp6 hk';generalize h[k]=d at hd hdm;have hto:0<=d.to:=by have:=(a0Q d).1 (hok d hdm);omega
   simp only [a5j,a0x,a0p,ltC hk',cond_true,a0t hd,a0l,a8y hm (by omega:k<=8),b4t d c hto,a0g,a0i,a0G hk' (by omega),hd,Option.map_some,Option.getD_some];cases s <;> cases m.testBit k <;> cases bef d c <;> rfl)
  (fun s=>by simp [a5j]) (!m.testBit i)
 rw [show ((!m.testBit i,0):Bool×Int)=(!m.testBit i,((0:Nat):Int)) from rfl,this,a9D]
 rfl
theorem b8P (hl:h.length<=8) (hok : ∀ c∈h,a1r c=true/\a4h S c) : ∀ (n m:Nat) (s:Int×Int) (mp:List (D×D)),room h m<n->m<256->b5k S s->a5W S h bef mp ->
  ∃ mp',a5W S h bef mp'/\b0g Ar.std n (m:Int) s.1 s.2 mp (a0E S) (a0b h)=some (((a3Q S h bef m s).length:Int),mp'):=by
 intro n
 induction n with
 | zero=>intro m s mp hr;omega
 | succ n ih =>
   intro m s mp hr hm hs hg;show ∃ mp',a5W S h bef mp'/\b2U Ar.std (b0g Ar.std n) (m:Int) s.1 s.2 mp (a0E S) (a0b h)=some (((a3Q S h bef m s).length:Int),mp');have hmd:((a3Q S h bef m s).length:Int)<1000000000:=by have:=b0K S h bef hl m s;omega
   unfold b2U;cases hk:Am.mget mp (b6o m s) with
   | some v =>
     have hv:=hg m s v hk;refine ⟨mp,hg,?_⟩;have:lk Ar.std (cI .i64) mp (.agg [.int .u8 (m:Int),.int .i64 s.1,.int .i64 s.2])=some (some ((a3Q S h bef m s).length:Int)):=by
      show (Am.mget mp (b6o m s)).elim _ _=_;rw [hk,hv];simp
     rw [this]
     rfl
   | none =>
     have:lk Ar.std (cI .i64) mp (.agg [.int .u8 (m:Int),.int .i64 s.1,.int .i64 s.2])=some none:=by
      show (Am.mget mp (b6o m s)).elim _ _=_;rw [hk];rfl
     rw [this];simp only [a0l,Option.elim_none,cond_false,b6q hl hm,a0O,b5s]

     have hloop:=a3C (step:=a5k Ar.std (m:Int) s.1 s.2 (a0E S) (a0b h) (b0g Ar.std n)) h.length (fun (q:List (D×D)×Int) i=>((i:Int),q.1,q.2))
      (fun i q=>a5W S h bef q.1/\q.2=(bif a1L h m then 1 else 0:Int)+(((List.range i).map (a3s S h bef m s)).sum:Int)) (fun q=>(q.1,q.2))
      (fun i q hi hR=>by
       obtain ⟨q1,q2⟩:=q;obtain ⟨hg1,rfl⟩:=hR;have hc:=zp1 hi;have hcm:=zp6 hi;generalize h[i]=c at hc hcm;obtain ⟨hcok,hcin⟩:=hok c hcm;have hsum:((List.range (i+1)).map (a3s S h bef m s)).sum=((List.range i).map (a3s S h bef m s)).sum+a3s S h bef m s i:=by
        rw [List.range_succ,List.map_append,List.sum_append];simp
       have hle:=a8z S h bef m s;have hle2:((List.range (i+1)).map (a3s S h bef m s)).sum<=_:=b7A (f:=a3s S h bef m s) hi;have hlt2:=b0K S h bef hl m s;simp only [a5k,a0x,a0p,ltC hi,cond_true,a0t hc,a0l,a8y hm (by omega:i<=8),b2y hl (fun c hc=>(hok c hc).1) hm (by omega:i<=8),a0g,a0i,a0G hi (by omega)];cases hf:a4w h bef m i c with
       | false =>
         have h0:a3s S h bef m s i=0:=by simp [a3s,a1I,hc,hf]
         refine ⟨(q1,_),⟨hg1,by simp only [hsum,h0,Nat.add_zero]⟩,?_⟩;simp only [cond_false,a0l]
       | true =>
         have ht:m.testBit i=false:=by simp only [a4w,zp4] at hf;simpa using hf.1
         simp only [cond_true,b6n hcin hs,a0l];cases ho:okS S c s with
         | false =>
           have h0:a3s S h bef m s i=0:=by simp [a3s,a1I,hc,ho]
           refine ⟨(q1,_),⟨hg1,by simp only [hsum,h0,Nat.add_zero]⟩,?_⟩;simp only [cond_false,a0l]
         | true =>
           have hn:a1I S h bef m s i=some (ins m i,doS S c s):=by simp [a1I,hc,hf,ho]
           have h0:a3s S h bef m s i=(a3Q S h bef (ins m i) (doS S c s)).length:=by simp [a3s,hn]
           have hz:decide ((i:Int)<0)=false:=by simp
           obtain ⟨mp2,hg2,e2⟩:=ih (ins m i) (doS S c s) q1 (by have:=a6g hi ht;omega) (b7z (n:=8) hm (by omega)) (b4F hcin hs) hg1;have hins:Ar.std.bits .or .u8 (m:Int) (Ar.std.shl .u8 1 (i:Int))=((ins m i:Nat):Int):=c1u m i hm (by omega);refine ⟨(mp2,_),⟨hg2,rfl⟩,?_⟩;simp only [cond_true,hz,b1p,a0l,hins,e2];have hw:IntKind.i64.wrap ((bif a1L h m then 1 else 0:Int)+(((List.range i).map (a3s S h bef m s)).sum:Int)+((a3Q S h bef (ins m i) (doS S c s)).length:Int))=(bif a1L h m then 1 else 0:Int)+(((List.range (i+1)).map (a3s S h bef m s)).sum:Int):=by
            rw [hsum,h0];rw [hsum,h0] at hle2;cases he:a1L h m <;> simp only [he,cond_true,cond_false] at hle ⊢ <;> (rw [a8P _ (by omega) (by omega)];omega)
           rw [hw])
      (fun q hR=>by simp [a5k]) (mp,(bif a1L h m then 1 else 0:Int)) ⟨hg,by simp⟩
     obtain ⟨q,⟨hg1,hq2⟩,hit⟩:=hloop;have htot:q.2=((a3Q S h bef m s).length:Int):=by
      rw [hq2,a8z];cases a1L h m <;> simp
     simp only [b5t];have hit':iter (a5k Ar.std (m:Int) s.1 s.2 (a0E S) (a0b h) (b0g Ar.std n)) (0,mp,bif a1L h m then 1 else 0)=some (q.1,q.2):=hit
     rw [hit'];refine ⟨Am.mput q.1 (b6o m s) (.int .i64 ((a3Q S h bef m s).length:Int)),hg1.put m s,?_⟩;simp only [a0l,htot,b5Y]
     rfl
theorem b8Q (hl:h.length<=8) (hok : ∀ c∈h,a1r c=true/\a4h S c) {m:Nat} {s:Int×Int} {mp:List (D×D)} (hm:m<256) (hs:b5k S s) (hg:a5W S h bef mp) :
  ∃ mp',a5W S h bef mp'/\c2C Ar.std (m:Int) s.1 s.2 mp (a0E S) (a0b h)=some (((a3Q S h bef m s).length:Int),mp'):=by
 have hr:room h m<fuel:=by
  have:=List.countP_le_length (p:=fun i => !m.testBit i) (l:=List.range h.length);rw [List.length_range] at this;rw [b4h];unfold room;omega
 exact b8P hl hok fuel m s mp hr hm hs hg
end
section
variable {S:List Spec} {h:List Call}
end
def a1s (l:List Nat):List D:=a0d (l.map (fun i:Nat=>(i:Int)))
theorem c1v {l:List Nat} {i:Nat} (h:l.length<4294967295):ap Ar.std (a1s l) [.int .i64 (i:Int)]=some (a1s (l++[i])):=by
 unfold a1s;have:=a1y (c:=cI .i64) (l:=l.map (fun i:Nat=>(i:Int))) (a:=(i:Int)) (d := .int .i64 (i:Int)) rfl (by simpa using h);rw [this,List.map_append]
 rfl
def kid (S:List Spec) (h:List Call) (must:Call->Call->Bool) (m:Nat) (s:Int×Int) (i:Nat):List (List Nat):=((a1I S h must m s i).map fun p=>(a3Q S h must p.1 p.2).map (i :: ·)).getD []
theorem b8R (S:List Spec) (h:List Call) (must:Call->Call->Bool) (m:Nat) (s:Int×Int) (i:Nat):(kid S h must m s i).length=a3s S h must m s i:=by
 unfold kid a3s;cases a1I S h must m s i <;> simp
section
variable {S:List Spec} {h:List Call}
end
def a5X (S:List Spec) (h:List Call):List (List Nat):=a3Q S h bef 0 (0,0)
def b1A (S:List Spec) (h:List Call):List Nat×Int:=bif decide (a5V S h=0) then (match a5X S h with | []=>([],5) | l::_=>(l,0)) else ([],a5V S h)
theorem a7a {S:List Spec} {h:List Call} (he:a5V S h=0):a6Y S=true/\b1z S h=true:=by
 unfold a5V at he;cases ha:a6Y S <;> cases hf:b1z S h <;> simp [ha,hf] at he ⊢
theorem b8S (S:List Spec) (h:List Call) (hs:a1Y S) (hl:h.length<Lg):b9M Ar.std (a0E S) (a0b h)=some (bif decide (a5V S h=0) then (((a5X S h).length:Int),0) else (0,a5V S h)):=by
 simp only [b9M,c1n S h hs hl,a0l,a0F,c2B];by_cases he:a5V S h=0
 ·obtain ⟨ha,hf⟩:=a7a he;obtain ⟨h8,hok⟩:=b4G ha hf;obtain ⟨mp',_,e⟩:=b8Q (S:=S) (h:=h) h8 hok (m:=0) (s:=(0,0)) (mp:=[]) (by decide) (a6Z ha) (a5W.nil _ _ _);have e':c2C Ar.std 0 0 0 [] (a0E S) (a0b h)=_:=e;simp only [he,decide_true,cond_true,e',a0l,a5X]
 simp only [he,decide_false,cond_false]
theorem c1w (S:List Spec) (h:List Call) (hs:a1Y S) (hl:h.length<Lg):Z85 Ar.std (a0E S) (a0b h)=some (decide (a5V S h=0) && !(a5X S h).isEmpty,a5V S h):=by
 simp only [Z85,b8S S h hs hl,a0l,a0x];by_cases he:a5V S h=0
 ·simp only [he,decide_true,cond_true];cases a5X S h <;> simp
 simp [he]
def hc (h:List Call) (x:Int):Call:=h.getD x.toNat (0,0,0,0,0,0)
def inH (h:List Call) (x:Int):Bool:=btw 0 x ((h.length:Int)-1)
theorem a1Z {h:List Call} {x:Int}:inH h x=true↔0<=x/\x<h.length:=by unfold inH;rw [a0n];omega
theorem a7T {h:List Call} {x:Int} (hx:inH h x=true):h[x.toNat]?=some (hc h x):=by
 rw [a1Z] at hx;have:x.toNat<h.length:=by omega
 simp [hc,List.getD_eq_getElem?_getD,zp1 this]
theorem a4D {h:List Call} {i:Nat} {c:Call} (hi:h[i]?=some c):hc h (i:Int)=c:=by simp [hc,List.getD_eq_getElem?_getD,hi]
theorem c1x {h:List Call} {x:Int} (hx:inH h x=true):hc h x∈h:=List.mem_of_getElem? (a7T hx)
def a7b (h:List Call) (l:List Int) (i:Nat):Bool:=(l[i]?.map fun x => !inH h x||(l.take i).contains x).getD false
def nums (h:List Call) (l:List Int):Bool := !(List.range l.length).any (a7b h l)
def full (h:List Call) (l:List Int):Bool := !(List.range h.length).any fun i=>(h[i]?.map fun c=>decide (c.to≠0) && !l.contains (i:Int)).getD false
def isL (h:List Call) (l:List Int):Bool:=nums h l&&full h l
theorem a2o {h:List Call} {l:List Int}:nums h l=true↔(∀ x∈l,inH h x=true)/\l.Nodup:=by
 simp only [nums,Bool.not_eq_true',List.any_eq_false,List.mem_range];constructor
 ·intro hn;have hx : ∀ i (hi:i<l.length),inH h l[i]=true/\l[i]∉l.take i:=by
   intro i hi;have:=hn i hi;simp only [a7b,zp1 hi,Option.map_some,Option.getD_some,Bool.or_eq_true,not_or,Bool.not_eq_true',Bool.not_eq_false,List.contains_iff_mem] at this;exact this
  refine ⟨fun x hxm => ?_,?_⟩
  ·obtain ⟨i,hi,rfl⟩:=List.getElem_of_mem hxm;exact (hx i hi).1
  rw [List.Nodup,List.pairwise_iff_getElem];intro i j hi hj hij e;refine (hx j hj).2 ?_;rw [<-e];have hlt:i<(l.take j).length:=by simp;omega
  have:(l.take j)[i]=l[i]:=List.getElem_take;rw [<-this];exact zp6 hlt
 rintro ⟨h1,h2⟩ i hi;simp only [a7b,zp1 hi,Option.map_some,Option.getD_some,Bool.or_eq_true,not_or,Bool.not_eq_true',Bool.not_eq_false,List.contains_iff_mem];refine ⟨h1 _ (zp6 hi),fun hm => ?_⟩;obtain ⟨j,hj,e⟩:=List.getElem_of_mem hm;have hj':j<i:=by simp at hj;omega
 rw [List.getElem_take] at e;rw [List.Nodup,List.pairwise_iff_getElem] at h2;exact h2 j i (by omega) hi hj' e
theorem b1B {h:List Call} {l:List Int} (hn:nums h l=true):l.length<=h.length:=by
 obtain ⟨h1,h2⟩:=a2o.1 hn;have hs : ∀ x∈l,x∈(List.range h.length).map (fun i:Nat=>(i:Int)):=by
  intro x hx;have:=a1Z.1 (h1 x hx);exact List.mem_map.2 ⟨x.toNat,List.mem_range.2 (by omega),by omega⟩
 have:=List.Nodup.length_le_of_subset h2 hs;simpa using this
def a4x (n:Nat) (pre:List Int):List Bool:=pre.foldl (fun t x=>t.set x.toNat true) (List.replicate n false)
theorem a7U (n:Nat) (pre:List Int) (x:Int):a4x n (pre++[x])=(a4x n pre).set x.toNat true:=by simp [a4x]
theorem a9Q (n:Nat) : ∀ (pre:List Int),(∀ x∈pre,0<=x/\x<n)->(a4x n pre).length=n /\ ∀ j:Nat,j<n->(a4x n pre)[j]?=some (pre.contains (j:Int)):=by
 intro pre
 induction hl:pre.length generalizing pre with
 | zero =>
   intro _;obtain rfl:=List.length_eq_zero_iff.1 hl;refine ⟨by simp [a4x],fun j hj => ?_⟩;show (List.replicate n false)[j]?=_;rw [List.getElem?_replicate,if_pos hj];rfl
 | succ k ih =>
   intro hok;obtain ⟨p,x,rfl⟩ : ∃ p c,pre=p++[c]:=⟨pre.dropLast,pre.getLast (by intro e;rw [e] at hl;cases hl),(List.dropLast_concat_getLast _).symm⟩;obtain ⟨h1,h2⟩:=ih p (by simpa using hl) (fun d hd=>hok d (by simp [hd]));have hx:=hok x (by simp);rw [a7U];refine ⟨by simp [h1],fun j hj => ?_⟩;rw [List.getElem?_set,h2 j hj];by_cases he:x.toNat=j
   ·have:x=(j:Int):=by omega
    rw [if_pos he,if_pos (by omega),this];simp
   have h3 : ¬ x=(j:Int):=by omega
   have h4:((j:Int) == x)=false:=by simpa using fun e=>h3 e.symm
   rw [if_neg he];simp [h4];exact fun e=>absurd e.symm h3
section
variable {h:List Call} (hl:h.length<=40)
include hl
theorem c1y (h0:h.length<=40):IntKind.i64.wrap ((h.length:Int)-1)=(h.length:Int)-1:=b2v (by omega) (by omega)
theorem b6r (l:List Int) (hll:l.length<Lg):b1U Ar.std (a0b h) (a0d l)=some (isL h l):=by
 simp only [b1U,a0x,a0p];by_cases hlen:(h.length:Int)<(l.length:Int)
 ·have:nums h l=false:=by
   cases hn:nums h l with
   | false=>rfl
   | true=>have:=b1B hn;omega
  simp only [hlen,decide_true,cond_true,isL,this,Bool.false_and]
 have c1:decide ((h.length:Int)=(h.length:Int))=true:=by simp
 have c2:decide ((0:Int)<=(h.length:Int))=true:=by simp
 have c3:decide ((h.length:Int)<4294967296)=true:=decide_eq_true (by omega);simp only [hlen,decide_false,cond_false,a0F,c1,a4H,a0Z,c2,b1o,c3,a0l];have hpre : ∀ i,(∀ j,j<i->a7b h l j=false) -> ∀ x∈l.take i,inH h x=true:=by
  intro i hb x hx;obtain ⟨j,hj,rfl⟩:=List.getElem_of_mem hx;have hj1:j<i/\j<l.length:=by simp at hj;omega
  have:=hb j hj1.1;simp only [a7b,zp1 hj1.2,Option.map_some,Option.getD_some,Bool.or_eq_false_iff] at this;rw [List.getElem_take];simpa using this.1
 have hstop:=a9B (step:=a6p Ar.std (a0b h) (a0d l)) l.length (fun i=>((i:Int),enc cB (a4x h.length (l.take i)))) (a7b h l) (enc cB (a4x h.length (l.take l.length))) (fun i hi hb=>by
  have hx:=zp1 hi;generalize l[i]=x at hx;have hp:=hpre i hb;obtain ⟨t1,t2⟩:=a9Q h.length (l.take i) (fun x hx=>a1Z.1 (hp x hx));have hbt:btw 0 x ((h.length:Int)-1)=inH h x:=rfl;simp only [a7b,hx,Option.map_some,Option.getD_some,a6p,a0x,a0p,ltC hi,cond_true,a0t hx,a0l,b4C,a0g,a0D,c1y hl hl,hbt];cases hin:inH h x with
  | false=>exact ⟨fun h=>(by cases h),fun _=>⟨_,rfl⟩⟩
  | true =>
    have hix:=a1Z.1 hin;have d0:decide (0<=x)=true:=decide_eq_true hix.1;have d1:decide (x<(h.length:Int))=true:=decide_eq_true hix.2;have hnat:Ar.std.nat (Ar.std.zadd 0 x)=x.toNat:=by simp
    have hg:=t2 x.toNat (by omega);rw [show ((x.toNat:Nat):Int)=x by omega] at hg;have g1:gc Ar.std cB (enc cB (a4x h.length (l.take i))) x.toNat=some ((l.take i).contains x):=a2U hg;have g2:Ar.std.lget (enc cB (a4x h.length (l.take i))) x.toNat=some (cB.en ((l.take i).contains x)):=by rw [a4Z,a4J,hg];rfl
    have hset:Ar.std.lset (enc cB (a4x h.length (l.take i))) x.toNat (D.bool true)=enc cB ((a4x h.length (l.take i)).set x.toNat true):=a3D _ _ true;simp only [cond_true,a0Z,d0,d1,a4H,a0l,hnat,g1,g2,hset,Bool.not_true,Bool.false_or];cases hcn:(l.take i).contains x with
    | true=>exact ⟨fun h=>(by cases h),fun _=>⟨_,rfl⟩⟩
    | false =>
      refine ⟨fun _ => ?_,fun h=>(by cases h)⟩;simp only [cond_false,a0i,a0G hi hll,a0J hx,a7U]) (fun hb=>by simp [a6p])
 have e0:((0:Int),Ar.std.rep (h.length:Int) (D.bool false))=(((0:Nat):Int),enc cB (a4x h.length (l.take 0))):=by
  rw [show (D.bool false)=cB.en false from rfl,b0C];simp [a4x]
 rw [e0];rcases hstop with ⟨h1,h2,h3⟩ | ⟨h1,z,h3⟩
 ·rw [h3];simp only [a0l,Sum.elim_inl,isL,nums,h1,Bool.not_false,Bool.true_and,List.take_length];have hp:=hpre l.length h2;rw [List.take_length] at hp;obtain ⟨t1,t2⟩:=a9Q h.length l (fun x hx=>a1Z.1 (hp x hx));have e1:iter (a6q Ar.std (a0b h) (enc cB (a4x h.length l))) 0=some (bif (List.range h.length).any (fun i=>(h[i]?.map fun c=>decide (c.to≠0) && !l.contains (i:Int)).getD false) then .inr () else .inl ()):=by
   refine a2V h.length _ _ _ (fun i hi => ?_) ?_
   ·have hc:=zp1 hi;generalize h[i]=c at hc;have d0:decide ((0:Int)<=(i:Int))=true:=by simp
    have hnat:Ar.std.nat (Ar.std.zadd 0 (i:Int))=i:=by simp
    have g1:gc Ar.std cB (enc cB (a4x h.length l)) i=some (l.contains (i:Int)):=a2U (t2 i hi);simp only [a6q,a0x,a0Z,a0p,ltC hi,cond_true,a0t hc,a0l,a0F,d0,a4H,hnat,g1,hc,Option.map_some,Option.getD_some,Call.to];simp only [a0g,a0i,a0G hi (show h.length<9223372036854775808 by omega)];by_cases hz:c.2.2.2.2.2=0
    ·simp [hz]
    cases l.contains (i:Int) <;> simp [hz]
   simp [a6q]
  rw [e1];unfold full;cases (List.range h.length).any _ <;> rfl
 rw [h3];simp [isL,nums,h1]
omit hl in
theorem b6s (l:List Int) (hll:l.length<Lg) (x:Int):b0h Ar.std (a0d l) x=some (l.contains x):=by
 have e:iter (a6r Ar.std (a0d l) x) 0=some (bif l.any (fun y=>decide (y=x)) then .inr () else .inl ()):=by
  refine a1k l _ _ _ (fun i y hy hi => ?_) ?_
  ·simp [a6r,a0t hy,hi,a0G hi hll]
  simp [a6r]
 simp only [b0h,e,a0l];have:l.any (fun y=>decide (y=x))=l.contains x:=by
  rw [Bool.eq_iff_iff];simp
 rw [this];cases l.contains x <;> rfl
def a4i (must:Call->Call->Bool) (h:List Call) (l:List Int) (i:Nat):Bool:=(l[i]?.map fun x=>(l.take i).any fun y=>must (hc h x) (hc h y)).getD false
def a2t (must:Call->Call->Bool) (h:List Call) (l:List Int):Bool := !(List.range l.length).any (a4i must h l)
omit hl in
theorem b6t (l:List Int) (hll:l.length<Lg) (hin : ∀ x∈l,inH h x=true):a8Y Ar.std (a0b h) (a0d l)=some (a2t bef h l):=by
 have e0 : ∀ (i:Nat) (x:Int),l[i]?=some x->iter (a6s Ar.std (a0b h) (a0d l) (i:Int)) 0=some (bif (l.take i).any (fun y=>bef (hc h x) (hc h y)) then .inr () else .inl ()):=by
  intro i x hx;have hi:i<l.length:=(zp2.1 hx).1;have hlen:(l.take i).length=i:=by simp;omega
  have hxi:=hin x (List.mem_of_getElem? hx);refine a1k (l.take i) _ _ _ (fun k y hy hk => ?_) (by simp [a6s,hlen]);have hk':k<i:=by omega
  have hy':l[k]?=some y:=by rw [List.getElem?_take] at hy;rw [if_pos hk'] at hy;exact hy
  have hyi:=hin y (List.mem_of_getElem? hy');simp only [a6s,a0x,ltC hk',cond_true,a0t hx,a0t hy',a0l,a1R (a1Z.1 hxi).1 (a7T hxi),a1R (a1Z.1 hyi).1 (a7T hyi),b4E,a0g,a0i,a0G hk' (Nat.lt_trans hi hll)];cases bef (hc h x) (hc h y) <;> rfl
 have e:iter (a6t Ar.std (a0b h) (a0d l)) 0=some (bif (List.range l.length).any (a4i bef h l) then .inr () else .inl ()):=by
  refine a2V l.length _ _ _ (fun i hi => ?_) ?_
  ·have hx:=zp1 hi;generalize l[i]=x at hx;simp only [a6t,a0x,a0p,ltC hi,cond_true,e0 i x hx,a0l,a0g,a0i,a0G hi hll,a4i,hx,Option.map_some,Option.getD_some];cases (l.take i).any _ <;> rfl
  simp [a6t]
 simp only [a8Y,e,a0l,a2t];cases (List.range l.length).any _ <;> rfl
def a1z (S:List Spec) (h:List Call):List Int->Int×Int->Bool
 | [],_=>true
 | x::l,s=>okS S (hc h x) s&&a1z S h l (doS S (hc h x) s)
def a2a (S:List Spec) (h:List Call) (l:List Int):Bool:=a1z S h l (0,0)
def a7V (S:List Spec) (s:Int×Int):List Int:=[s.1,s.2].take S.length
omit hl in
theorem b6u {S:List Spec} {c:Call} (hin:a4h S c) (s:Int×Int):(a7V S s)[c.ob.toNat]?=some (a3r c s):=by
 obtain ⟨hob,x,hx,_⟩:=hin;have hlt:=(zp2.1 hx).1;unfold a7V;rw [List.getElem?_take,if_pos hlt];rcases hob with h | h
 ·simp [h,a3r]
 simp [h,a3r]
omit hl in
theorem b6v {S:List Spec} {c:Call} (hin:a4h S c) (s:Int×Int):(a7V S s).set c.ob.toNat (nx (b6m S c).2.2.1 (a3r c s) c.op)=a7V S (doS S c s):=by
 obtain ⟨hob,x,hx,_⟩:=hin;unfold a7V;rw [<-List.take_set];congr 1;rcases hob with h | h <;> simp [h,doS]
omit hl in
theorem b6w {S:List Spec} (ha:a6Y S=true) (hok : ∀ c∈h,a1r c=true/\a4h S c) (l:List Int) (hll:l.length<Lg) (hin : ∀ x∈l,inH h x=true):b0i Ar.std (a0E S) (a0b h) (a0d l)=some (a2a S h l):=by
 have hS:1<=S.length/\S.length<=2:=by
  simp only [a6Y,zp4,a0n] at ha;omega
 have hloop:=a4c (step:=a5l Ar.std (a0E S) (a0b h) (a0d l)) l (fun (s:Int×Int) i=>((i:Int),a0d (a7V S s))) (fun s x=>bif okS S (hc h x) s then .inl (doS S (hc h x) s) else .inr (.inr (a0d (a7V S s)))) (fun s => .inl (a0d (a7V S s))) (fun _ s=>b5k S s)
  (fun i x s hx hs=>by
   have hi:i<l.length:=(zp2.1 hx).1;have hxi:=hin x (List.mem_of_getElem? hx);have hcg:=a7T hxi;have hcm:=c1x hxi;generalize hc h x=c at hcg hcm;obtain ⟨hcok,hcin⟩:=hok c hcm;obtain ⟨y,hy,e,hsy,h1,h2,h3,h4⟩:=a5C hcin hs;obtain ⟨_,_,t1,t2⟩:=(a2i y).1 hsy;obtain ⟨r,g1,g2,g3,g4⟩:=a4M t1 h1 h2 h3 h4;obtain ⟨q,k1,k2,k3,k4⟩:=a4M t2 h1 h2 h3 h4;have hob:0<=c.2.1:=by rcases hcin.1 with h | h <;> simp only [Call.ob] at h <;> omega
   have hobl:c.2.1<(S.length:Int):=by have:=(zp2.1 hy).1;simp only [Call.ob] at this;omega
   have d0:decide (0<=c.2.1)=true:=decide_eq_true hob;have d1:decide (c.2.1<(S.length:Int))=true:=decide_eq_true hobl;have hnat:Ar.std.nat (Ar.std.zadd 0 c.2.1)=c.ob.toNat:=by simp
   have hsg:=b6u hcin s;have gg:gc Ar.std (cI .i64) (a0d (a7V S s)) c.ob.toNat=some (a3r c s):=a2U hsg;have gl:Ar.std.lget (a0d (a7V S s)) c.ob.toNat=some (.int .i64 (a3r c s)):=by rw [a4Z,a4J,hsg];rfl
   have hset : ∀ v:Int,Ar.std.lset (a0d (a7V S s)) c.ob.toNat (.int .i64 v)=a0d ((a7V S s).set c.ob.toNat v):=fun v=>a3D _ _ v;have e1:=a4q (l:=S) hob hy;have e2:=a1O h1 g1;have e3:=a1R (c:=cI .i64) (l:=r) h3 g2;have e4:=a1O h1 k1;have e5:=a1R (c:=cI .i64) (l:=q) h3 k2;have hst:a5l Ar.std (a0E S) (a0b h) (a0d l) ((i:Int),a0d (a7V S s))=some (bif okS S c s then .inl (((i+1:Nat):Int),a0d (a7V S (doS S c s))) else .inr (.inr (a0d (a7V S s)))):=by
    simp only [a5l,a0x,a0Z,a0p,List.length_map,ltC hi,cond_true,a0t hx,a1R (a1Z.1 hxi).1 hcg,a0l,e1,a0F,d0,d1,a4H,hnat,gg,gl,e2,e3,e4,e5,a0O,hset];simp only [a0g,a0i,a0G hi hll];have hset2:=b6v hcin s;rw [e] at hset2;rw [hset2];unfold okS;rw [e];by_cases hz:c.2.2.2.2.2=0
    ·simp [hz]
    by_cases hsa:nx y.2.2.2 (a3r c s) c.2.2.1=c.2.2.2.1 <;> simp [hz,hsa]
   rw [hst];cases hos:okS S c s with
   | true=>exact .inl ⟨_,rfl,b4F hcin hs,rfl⟩
   | false=>exact .inr ⟨_,rfl,rfl⟩)
  (fun s hs=>by simp [a5l]) (0,0) (a6Z ha)
 have hfold : ∀ (l:List Int) (s:Int×Int),∃ z,a5T (fun s x=>bif okS S (hc h x) s then .inl (doS S (hc h x) s) else .inr (.inr (a0d (a7V S s)))) (fun s=>(.inl (a0d (a7V S s)):List D⊕List D)) l s=bif a1z S h l s then .inl z else .inr z:=by
  intro l
  induction l with
  | nil=>intro s;exact ⟨_,rfl⟩
  | cons x l ih =>
    intro s;rw [a3n];cases hos:okS S (hc h x) s with
    | true =>
      obtain ⟨z,hz⟩:=ih (doS S (hc h x) s);exact ⟨z,by simp only [cond_true,Sum.elim_inl,hz,a1z,hos,Bool.true_and]⟩
    | false=>exact ⟨_,by simp only [cond_false,Sum.elim_inr,a1z,hos,Bool.false_and];rfl⟩
 obtain ⟨z,hz⟩:=hfold l (0,0);rw [hz] at hloop;have c1:decide ((S.length:Int)=(S.length:Int))=true:=by simp
 have c2:decide ((0:Int)<=(S.length:Int))=true:=by simp
 have c3:decide ((S.length:Int)<4294967296)=true:=decide_eq_true (by omega);have e0:((0:Int),Ar.std.rep (S.length:Int) (D.int .i64 0))=(((0:Nat):Int),a0d (a7V S (0,0))):=by
  rw [show (D.int .i64 0)=(cI .i64).en 0 from rfl,b0C];have:List.replicate S.length (0:Int)=a7V S (0,0):=by
   unfold a7V;have h2:S.length=1\/S.length=2:=by omega
   rcases h2 with h | h <;> rw [h] <;> rfl
  simp [this]
 simp only [b0i,a0p,List.length_map,a0F,c1,a4H,a0Z,c2,b1o,c3,a0l,e0,hloop,a2a];cases a1z S h l (0,0) <;> rfl
end
def cN (l:List Nat):List Int:=l.map (fun i:Nat=>(i:Int))
theorem a6h (l:List Nat):a1s l=a0d (cN l):=rfl
@[simp] theorem a4j (l:List Nat) (i:Nat):cN (l++[i])=cN l++[(i:Int)]:=by simp [cN]
theorem a5e {l:List Nat} {i:Nat}:(i:Int)∈cN l↔i∈l:=by
 simp only [cN,List.mem_map];constructor
 ·rintro ⟨j,hj,e⟩;have:j=i:=by omega
  subst this;exact hj
 intro h;exact ⟨i,h,rfl⟩
def a0B (l:List Nat):Nat:=l.foldl ins 0
def a3e (S:List Spec) (h:List Call) (l:List Nat):Int×Int:=l.foldl (fun s (i:Nat)=>doS S (hc h (i:Int)) s) (0,0)
theorem a0T (l:List Nat) (i:Nat):a0B (l++[i])=ins (a0B l) i:=by simp [a0B]
theorem a5f (S:List Spec) (h:List Call) (l:List Nat) (i:Nat):a3e S h (l++[i])=doS S (hc h (i:Int)) (a3e S h l):=by simp [a3e]
theorem a8A {α:Type} {P:List α->Prop} (h0:P []) (h1 : ∀ l a,P l->P (l++[a])) : ∀ l,P l:=by
 intro l;have : ∀ k (l:List α),l.length=k->P l:=by
  intro k
  induction k with
  | zero=>intro l hl;rw [List.length_eq_zero_iff.1 hl];exact h0
  | succ k ih =>
    intro l hl;have hne:l≠[]:=by intro e;rw [e] at hl;cases hl
    rw [<-List.dropLast_concat_getLast hne];exact h1 _ _ (ih _ (by rw [List.length_dropLast,hl];rfl))
 exact this _ l rfl
theorem a1H (l:List Nat) (i:Nat):(a0B l).testBit i=decide (i∈l):=by
 induction l using a8A with
 | h0=>simp [a0B]
 | h1 l a ih =>
   rw [a0T,a2D,ih,Bool.eq_iff_iff];simp only [Bool.or_eq_true,decide_eq_true_eq,List.mem_append,List.mem_singleton];constructor
   ·rintro (h | h)
    ·exact .inl h
    exact .inr h.symm
   rintro (h | h)
   ·exact .inl h
   exact .inr h.symm
theorem b6x {l:List Nat} (hl : ∀ i∈l,i<8):a0B l<256:=by
 induction l using a8A with
 | h0=>decide
 | h1 l a ih =>
   rw [a0T];exact b7z (n:=8) (ih (fun i hi=>hl i (by simp [hi]))) (hl a (by simp))
theorem a5Q (S:List Spec) (h:List Call) (x:Int) : ∀ (l:List Int) (s:Int×Int),a1z S h (l++[x]) s=(a1z S h l s&&okS S (hc h x) (l.foldl (fun s x=>doS S (hc h x) s) s))
 | [],s=>by simp [a1z]
 | y::l,s=>by simp only [List.cons_append,a1z,a5Q S h x l,List.foldl_cons,Bool.and_assoc]
theorem a2Y (S:List Spec) (h:List Call) (l:List Nat) (i:Nat):a2a S h (cN (l++[i]))=(a2a S h (cN l)&&okS S (hc h (i:Int)) (a3e S h l)):=by
 unfold a2a;rw [a4j,a5Q];congr 2;unfold a3e cN;rw [List.foldl_map]
theorem a3G (must:Call->Call->Bool) (h:List Call) (l:List Int) (x:Int):a2t must h (l++[x])=(a2t must h l && !l.any fun y=>must (hc h x) (hc h y)):=by
 unfold a2t;rw [List.length_append,List.length_singleton,List.range_succ,List.any_append];have h1:(List.range l.length).any (a4i must h (l++[x]))=(List.range l.length).any (a4i must h l):=by
  refine a5a fun i hi => ?_;have hi:=List.mem_range.1 hi;unfold a4i;rw [zp7 hi,List.take_append_of_le_length (by omega)]
 have h2:a4i must h (l++[x]) l.length=l.any fun y=>must (hc h x) (hc h y):=by
  unfold a4i;rw [zp8 (Nat.le_refl _)];simp
 rw [h1];simp only [List.any_cons,List.any_nil,Bool.or_false,h2,Bool.not_or]
structure MustOk (must:Call->Call->Bool) (h:List Call):Prop where
 ret : ∀ c∈h,∀ d∈h,must c d=true->0<c.to
 irr : ∀ c∈h,must c c=false
theorem b1C {h:List Call} (hok : ∀ c∈h,a1r c=true):MustOk bef h:=by
 refine ⟨fun c hc d _ hb => ?_,fun c hc => ?_⟩
 ·have:=(a0Q c).1 (hok c hc);simp only [bef,zp4,decide_eq_true_eq] at hb;omega
 have:=(a0Q c).1 (hok c hc);simp only [bef,Bool.and_eq_false_iff,decide_eq_false_iff_not];omega
def a1M (one:Bool) (a:Int×List Nat) (x:List Nat):Int×List Nat:=bif one&&decide (0<a.1) then a else (a.1+1,bif decide (a.1=0) then x else a.2)
theorem a4N {one:Bool} {a:Int×List Nat} (h:(one&&decide (0<a.1))=true) : ∀ L:List (List Nat),L.foldl (a1M one) a=a
 | []=>rfl
 | x::L=>by rw [List.foldl_cons,show a1M one a x=a by simp [a1M,h]];exact a4N h L
theorem a9R (one:Bool) : ∀ (L:List (List Nat)) (a:Int×List Nat),0<=a.1->0<=(L.foldl (a1M one) a).1/\(L.foldl (a1M one) a).1<=a.1+(L.length:Int)
 | [],a,h=>by simp [h]
 | x::L,a,h=>by
   rw [List.foldl_cons];have h1:0<=(a1M one a x).1/\(a1M one a x).1<=a.1+1:=by
    unfold a1M;cases one&&decide (0<a.1) <;> simp <;> omega
   have:=a9R one L (a1M one a x) h1.1;simp only [List.length_cons];omega
section
variable {S:List Spec} {h:List Call} {must:Call->Call->Bool}
def closed (must:Call->Call->Bool) (h:List Call) (m:Nat):Prop := ∀ (k i:Nat) (c d:Call),h[k]?=some c->h[i]?=some d->m.testBit i=true->m.testBit k=false->must c d=false
def dead (must:Call->Call->Bool) (h:List Call) (m:Nat):Prop := ∃ (k i:Nat) (c d:Call),h[k]?=some c/\h[i]?=some d/\m.testBit i=true/\m.testBit k=false/\0<c.to/\must c d=true
theorem a5D {m i:Nat} {c:Call} (hcl:closed must h m) (hc:h[i]?=some c) (hf:a4w h must m i c=true):closed must h (ins m i):=by
 intro k j c1 d1 hk hj hb1 hb2;rw [a2D,Bool.or_eq_true] at hb1;rw [a2D,Bool.or_eq_false_iff] at hb2;rcases hb1 with hb | hb
 ·exact hcl k j c1 d1 hk hj hb hb2.1
 have hij:i=j:=by simpa using hb
 subst hij;rw [hc] at hj;cases hj;simp only [a4w,zp4,List.all_eq_true,List.mem_range] at hf;have:=hf.2 k (zp2.1 hk).1;rw [hb2.1,hk] at this;simpa using this
theorem b6y {m i:Nat} {c:Call} (hm:MustOk must h) (hc:h[i]?=some c) (ht:m.testBit i=false) (hf:a4w h must m i c=false):dead must h (ins m i):=by
 simp only [a4w,ht,Bool.not_false,Bool.true_and] at hf;rw [List.all_eq_false] at hf;obtain ⟨k,hk,hb⟩:=hf;have hk:=List.mem_range.1 hk;have hd:=zp1 hk;have hdm:=zp6 hk;generalize h[k]=d at hd hdm;rw [hd] at hb;simp only [Option.map_some,Option.getD_some,Bool.or_eq_true,not_or,Bool.not_eq_true',Bool.not_eq_true,Bool.not_eq_false] at hb;have hne : ¬ i=k:=by
  rintro rfl;rw [hc] at hd;cases hd;rw [hm.irr c hdm] at hb;exact absurd hb.2 (by simp)
 exact ⟨k,i,d,c,hd,hc,by simp [a2D],by simp [a2D,hb.1,hne],hm.ret d hdm c (List.mem_of_getElem? hc) hb.2,hb.2⟩
theorem b4H {m:Nat} (hd:dead must h m):a1L h m=false:=by
 obtain ⟨k,i,c,d,hk,hi,h1,h2,h3,h4⟩:=hd;simp only [a1L,Bool.not_eq_false',List.any_eq_true,List.mem_range];exact ⟨k,(zp2.1 hk).1,by simp [hk,h2,h3]⟩
theorem b1D {l:List Nat} (hok : ∀ c∈h,a1r c=true) (hn:nums h (cN l)=true):isL h (cN l)=a1L h (a0B l):=by
 unfold isL full a1L;rw [hn,Bool.true_and];congr 1;refine a5a fun i hi => ?_;have hi:=List.mem_range.1 hi;have hc:=zp1 hi;have hcm:=zp6 hi;generalize h[i]=c at hc hcm;have:=(a0Q c).1 (hok c hcm);rw [hc,Option.map_some,Option.map_some,Option.getD_some,Option.getD_some,a1H];have e1:decide (c.to≠0)=decide (0<c.to):=by rw [decide_eq_decide];omega
 have e2:(cN l).contains (i:Int)=decide (i∈l):=by rw [Bool.eq_iff_iff];simp [a5e]
 rw [e1,e2]
theorem b1E {m:Nat} {s:Int×Int} {i:Nat} (h0:a1I S h must m s i=none):kid S h must m s i=[]:=by simp [kid,h0]
theorem b6z {m:Nat} {s:Int×Int} {i:Nat} {p:Nat×Int×Int} (h0:a1I S h must m s i=some p):kid S h must m s i=(a3Q S h must p.1 p.2).map (i :: ·):=by simp [kid,h0]
def a3N (S:List Spec) (h:List Call) (must:Call->Call->Bool) (l:List Nat) (one:Bool) (a:Int×List Nat) (i:Nat):Int×List Nat:=(((List.range i).flatMap (kid S h must (a0B l) (a3e S h l))).map (l ++ ·)).foldl (a1M one) a
theorem a5E (l:List Nat) (one:Bool) (a:Int×List Nat) (i:Nat):a3N S h must l one a (i+1)=((kid S h must (a0B l) (a3e S h l) i).map (l ++ ·)).foldl (a1M one) (a3N S h must l one a i):=by
 unfold a3N;rw [List.range_succ,List.flatMap_append,List.map_append,List.foldl_append];simp
theorem b2z (l:List Nat) (one:Bool) (a:Int×List Nat) {i n:Nat} (hin:i<=n) (hs:(one&&decide (0<(a3N S h must l one a i).1))=true):a3N S h must l one a n=a3N S h must l one a i:=by
 obtain ⟨k,rfl⟩ : ∃ k,n=i+k:=⟨n-i,by omega⟩;have:a3N S h must l one a (i+k)=List.foldl (a1M one) (a3N S h must l one a i) ((((List.range k).map (i + ·)).flatMap (kid S h must (a0B l) (a3e S h l))).map (l ++ ·)):=by
  unfold a3N;rw [List.range_add,List.flatMap_append,List.map_append,List.foldl_append]
 rw [this];exact a4N hs _
theorem b8T (ha:a6Y S=true) (hl:h.length<=8) (hok : ∀ c∈h,a1r c=true/\a4h S c) (hm:MustOk must h) (thr:Bool)
  (hkeep : ∀ l:List Int,l.length<Lg->(∀ x∈l,inH h x=true)->(bif thr then b1V Ar.std (a0b h) (a0d l) else a8Y Ar.std (a0b h) (a0d l))=some (a2t must h l)) :
  ∀ (n:Nat) (l:List Nat) (one:Bool) (found:Int) (first:List Nat),room h (a0B l)<n->nums h (cN l)=true->b5k S (a3e S h l)->a2a S h (cN l)=true->a2t must h (cN l)=true ->
    (one&&decide (0<found))=false->0<=found ->
    (closed must h (a0B l)->found+((a3Q S h must (a0B l) (a3e S h l)).length:Int)<2000000000->b5i Ar.std n (a1s l) one (a0E S) (a0b h) thr found (a1s first) =
     some (thr,(((a3Q S h must (a0B l) (a3e S h l)).map (l ++ ·)).foldl (a1M one) (found,first)).1,a1s (((a3Q S h must (a0B l) (a3e S h l)).map (l ++ ·)).foldl (a1M one) (found,first)).2)) /\
    (dead must h (a0B l)->b5i Ar.std n (a1s l) one (a0E S) (a0b h) thr found (a1s first)=some (thr,found,a1s first)):=by
 intro n
 induction n with
 | zero=>intro l one found first hr;omega
 | succ n ih =>
   intro l one found first hr hn hst hal hkp hone hf0
   have hrange : ∀ x∈cN l,inH h x=true:=(a2o.1 hn).1;have hlt8 : ∀ i∈l,i<8:=fun i hi=>by
    have:=a1Z.1 (hrange (i:Int) (a5e.2 hi));omega
   have hm8:=b6x hlt8;have hll:l.length<=8:=by have:=b1B hn;simp only [cN,List.length_map] at this;omega
   have hllg : ∀ i:Nat,(cN (l++[i])).length<Lg:=fun i=>by
    have:(cN (l++[i])).length=l.length+1:=by simp [cN]
    rw [this];exact (by omega:l.length+1<9223372036854775808)
   have hisl:b1U Ar.std (a0b h) (a1s l)=some (a1L h (a0B l)):=by
    rw [a6h,b6r (by omega) (cN l) (by
     have:(cN l).length=l.length:=by simp [cN]
     rw [this];exact (by omega:l.length<9223372036854775808)),b1D (fun c hc=>(hok c hc).1) hn]
   have hcopy:ap Ar.std [] (a1s l)=some (a1s l):=b8k (by simp;omega)

   have hstep : ∀ (i:Nat) (c:Call),h[i]?=some c->((b0h Ar.std (a1s l) (i:Int)).bind fun r79 =>
     bif r79 then some (false,thr) else (b0i Ar.std (a0E S) (a0b h) (a1s (l++[i]))).bind fun r82 =>
      bif r82 then bif thr then (b1V Ar.std (a0b h) (a1s (l++[i]))).bind fun r86=>bif r86 then some (true,true) else some (false,true)
       else (a8Y Ar.std (a0b h) (a1s (l++[i]))).bind fun r89=>some (r89,false) else some (false,thr)) =
     some (!(a0B l).testBit i&&(okS S c (a3e S h l) && !(cN l).any fun y=>must c (hc h y)),thr):=by
    intro i c hci;have hi:i<h.length:=(zp2.1 hci).1;have hic:inH h (i:Int)=true:=a1Z.2 ⟨by omega,by omega⟩;have hhc:=a4D hci;have hin2 : ∀ x∈cN (l++[i]),inH h x=true:=by
     intro x hx;rw [a4j,List.mem_append,List.mem_singleton] at hx;rcases hx with hx | rfl
     ·exact hrange x hx
     exact hic
    have e1:b0h Ar.std (a1s l) (i:Int)=some ((a0B l).testBit i):=by
     rw [a6h,b6s (cN l) (by
      have:(cN l).length=l.length:=by simp [cN]
      rw [this];exact (by omega:l.length<9223372036854775808)),a1H]
     exact congrArg some (by rw [Bool.eq_iff_iff];simp [a5e])
    have e2:b0i Ar.std (a0E S) (a0b h) (a1s (l++[i]))=some (okS S c (a3e S h l)):=by
     rw [a6h,b6w ha hok _ (hllg i) hin2,a2Y,hal,hhc,Bool.true_and]
    have e3:=hkeep (cN (l++[i])) (hllg i) hin2;rw [a4j,a3G,hkp,Bool.true_and,hhc,<-a4j,<-a6h] at e3;rw [e1,e2];simp only [a0l];cases (a0B l).testBit i with
    | true=>simp
    | false =>
      cases okS S c (a3e S h l) with
      | false=>simp
      | true =>
        cases thr with
        | true=>simp only [cond_true,cond_false] at e3 ⊢;rw [e3];simp only [a0l];cases (cN l).any _ <;> rfl
        | false=>simp only [cond_true,cond_false] at e3 ⊢;rw [e3];simp only [a0l];cases (cN l).any _ <;> rfl

   have hloop : ∀ (acc:Nat->Int×List Nat),(∀ i,i<h.length->(one&&decide (0<(acc i).1))=false -> ∀ c,h[i]?=some c ->
      ((!(a0B l).testBit i&&(okS S c (a3e S h l) && !(cN l).any fun y=>must c (hc h y)))=false->acc (i+1)=acc i) /\
      ((!(a0B l).testBit i&&(okS S c (a3e S h l) && !(cN l).any fun y=>must c (hc h y)))=true->b5i Ar.std n (a1s (l++[i])) one (a0E S) (a0b h) thr (acc i).1 (a1s (acc i).2)=some (thr,(acc (i+1)).1,a1s (acc (i+1)).2))) ->
     (∀ i,i<=h.length->(one&&decide (0<(acc i).1))=true->acc h.length=acc i) ->
     iter (b1W Ar.std (a1s l) (a0E S) (a0b h) (b5i Ar.std n)) (one,0,thr,(acc 0).1,a1s (acc 0).2)=some (thr,(acc h.length).1,a1s (acc h.length).2):=by
    intro acc h1 h2;have:=a4d (step:=b1W Ar.std (a1s l) (a0E S) (a0b h) (b5i Ar.std n)) h.length (fun (q:Int×List Nat) i=>(one,(i:Int),thr,q.1,a1s q.2)) (fun i q=>q=acc i)
     (fun i x=>x=(thr,(acc h.length).1,a1s (acc h.length).2)) (fun q=>(thr,q.1,a1s q.2))
     (fun i q hi hq=>by
      subst hq;have hci:=zp1 hi;generalize h[i]=c at hci;have hsti:=hstep i c hci;simp only [b1W,a0x,a0p,ltC hi,cond_true];cases hstop:one&&decide (0<(acc i).1) with
      | true =>
        rw [zp4] at hstop;refine .inr ⟨_,rfl,?_⟩;rw [h2 i (by omega) (by rw [hstop.1,hstop.2];rfl)];simp only [hstop.1,hstop.2,cond_true,Bool.not_true,a0l,cond_false]
      | false =>
        refine .inl ⟨_,rfl,?_⟩;obtain ⟨q1,q2⟩:=h1 i hi hstop c hci;have hcond:(bif one then some (true,!decide (0<(acc i).1)) else some (false,true))=some (one,true):=by
         cases one with
         | false=>rfl
         | true=>rw [Bool.true_and] at hstop;rw [hstop];rfl
        rw [hcond,a0l];dsimp only;rw [cond_true,hcopy,a0l,c1v (show l.length<4294967295 by omega),a0l,hsti,a0l];dsimp only;cases hgo:(!(a0B l).testBit i&&(okS S c (a3e S h l) && !(cN l).any fun y=>must c (hc h y))) with
        | false =>
          rw [cond_false,a0l,a0g,a0i,a0G hi (show h.length<9223372036854775808 by omega),q1 hgo]
        | true =>
          rw [cond_true,q2 hgo,a0l,a0l,a0g,a0i,a0G hi (show h.length<9223372036854775808 by omega)])
     (fun q hq=>by
      subst hq;simp only [b1W,a0x,a0p,show decide ((h.length:Int)<(h.length:Int))=false by simp,cond_false,a0l]) (acc 0) rfl
    rcases this with ⟨q,rfl,e⟩ | ⟨i,x,_,rfl,e⟩
    ·exact e
    exact e
   have hunf:b5i Ar.std (n+1) (a1s l) one (a0E S) (a0b h) thr found (a1s first)=b9P Ar.std (b5i Ar.std n) (a1s l) one (a0E S) (a0b h) thr found (a1s first):=rfl
   rw [hunf];unfold b9P;rw [hisl]

   have hchild : ∀ (i:Nat) (c:Call),h[i]?=some c->(!(a0B l).testBit i&&(okS S c (a3e S h l) && !(cN l).any fun y=>must c (hc h y)))=true ->
     room h (a0B (l++[i]))<n/\nums h (cN (l++[i]))=true/\b5k S (a3e S h (l++[i]))/\a2a S h (cN (l++[i]))=true/\a2t must h (cN (l++[i]))=true:=by
    intro i c hci hgo;simp only [zp4] at hgo;obtain ⟨g1,g2,g3⟩:=hgo;have hi:i<h.length:=(zp2.1 hci).1;have ht:(a0B l).testBit i=false:=by simpa using g1
    have hhc:=a4D hci;refine ⟨?_,?_,?_,?_,?_⟩
    ·rw [a0T];have:=a6g hi ht;omega
    ·rw [a4j,a2o];obtain ⟨n1,n2⟩:=a2o.1 hn;refine ⟨fun x hx => ?_,?_⟩
     ·rw [List.mem_append,List.mem_singleton] at hx;rcases hx with hx | rfl
      ·exact n1 x hx
      exact a1Z.2 ⟨by omega,by omega⟩
     rw [List.nodup_append];refine ⟨n2,by simp,fun x hx y hy => ?_⟩;rw [List.mem_singleton] at hy;subst hy;rintro rfl;rw [a1H] at ht;have:=a5e.1 hx;simp [this] at ht
    ·rw [a5f,hhc];exact b4F (hok c (List.mem_of_getElem? hci)).2 hst
    ·rw [a2Y,hal,hhc,g2];rfl
    rw [a4j,a3G,hkp,hhc];simpa using g3
   constructor
   ·intro hcl hbound;have hords:=a8x S h must (a0B l) (a3e S h l);have hown:(((a3Q S h must (a0B l) (a3e S h l)).map (l ++ ·)).foldl (a1M one) (found,first))=a3N S h must l one (bif a1L h (a0B l) then (found+1,bif decide (found=0) then l else first) else (found,first)) h.length:=by
     rw [hords,List.map_append,List.foldl_append];unfold a3N;refine congrArg (fun z=>List.foldl (a1M one) z _) ?_;cases a1L h (a0B l) with
     | false=>rfl
     | true=>simp [a1M,hone]
    rw [hown];have hlen:=a8z S h must (a0B l) (a3e S h l);have hpart : ∀ i,i<=h.length->(((List.range i).flatMap (kid S h must (a0B l) (a3e S h l))).map (l ++ ·)).length<=((List.range h.length).map (a3s S h must (a0B l) (a3e S h l))).sum:=by
     intro i hi;rw [List.length_map,List.length_flatMap];refine Nat.le_trans (Nat.le_of_eq ?_) (b7A (f:=a3s S h must (a0B l) (a3e S h l)) hi);exact congrArg List.sum (List.map_congr_left fun j _=>b8R S h must _ _ j)
    generalize ha0:(bif a1L h (a0B l) then (found+1,bif decide (found=0) then l else first) else (found,first):Int×List Nat)=a0 at hown ⊢
    have ha0':0<=a0.1/\a0.1=found+(bif a1L h (a0B l) then 1 else 0:Int):=by
     rw [<-ha0];cases a1L h (a0B l) <;> simp <;> omega
    have hL:=hloop (a3N S h must l one a0) (fun i hi hstop c hci=>by
     refine ⟨fun hgo => ?_,fun hgo => ?_⟩
     ·rw [a5E];have:a1I S h must (a0B l) (a3e S h l) i=none:=by
       unfold a1I;rw [hci];simp only [Option.bind_some];cases hf:a4w h must (a0B l) i c with
       | false=>rfl
       | true =>
         have ht:(a0B l).testBit i=false:=by simp only [a4w,zp4] at hf;simpa using hf.1
         have hno:(cN l).any (fun y=>must c (hc h y))=false:=by
          rw [List.any_eq_false];intro y hy;obtain ⟨j,hj,rfl⟩:=List.mem_map.1 hy;have hjr:=hrange _ hy;have:=hcl i j c (hc h (j:Int)) hci (by have:=a7T hjr;simpa using this) (by rw [a1H];simpa using hj) ht;simp [this]
         rw [ht,hno] at hgo;simp at hgo;simp [hgo]
      rw [b1E this];rfl
     ·obtain ⟨c1,c2,c3,c4,c5⟩:=hchild i c hci hgo;simp only [zp4] at hgo;have ht:(a0B l).testBit i=false:=by simpa using hgo.1
      have hhc:=a4D hci;have hbd:0<=(a3N S h must l one a0 i).1/\(a3N S h must l one a0 i).1+((kid S h must (a0B l) (a3e S h l) i).length:Int)<2000000000:=by
       have h3:=a9R one (((List.range i).flatMap (kid S h must (a0B l) (a3e S h l))).map (l ++ ·)) a0 ha0'.1;have h4:=hpart (i+1) hi;rw [List.range_succ,List.flatMap_append,List.map_append,List.length_append] at h4;simp only [List.flatMap_cons,List.flatMap_nil,List.append_nil,List.length_map] at h4;simp only [List.length_map] at h3;refine ⟨h3.1,?_⟩;have h5:(a3N S h must l one a0 i).1<=a0.1+((((List.range i).flatMap (kid S h must (a0B l) (a3e S h l))).length:Nat):Int):=h3.2;rw [ha0'.2] at h5;cases he:a1L h (a0B l) <;> simp only [he,cond_true,cond_false] at hlen h5 <;> omega
      cases hf:a4w h must (a0B l) i c with
      | false =>
        have hnone:a1I S h must (a0B l) (a3e S h l) i=none:=by simp [a1I,hci,hf]
        rw [a5E,b1E hnone,List.map_nil,List.foldl_nil];have hdead:dead must h (a0B (l++[i])):=by rw [a0T];exact b6y hm hci ht hf
        exact (ih (l++[i]) one _ _ c1 c2 c3 c4 c5 hstop hbd.1).2 hdead
      | true =>
        have hsome:a1I S h must (a0B l) (a3e S h l) i=some (ins (a0B l) i,doS S c (a3e S h l)):=by simp [a1I,hci,hf,hgo.2.1]
        have hkid:=b6z (S:=S) hsome;rw [a5E,hkid];have hcl2:closed must h (a0B (l++[i])):=by rw [a0T];exact a5D hcl hci hf
        have hrun:a3e S h (l++[i])=doS S c (a3e S h l):=by rw [a5f,hhc]
        have:=(ih (l++[i]) one (a3N S h must l one a0 i).1 (a3N S h must l one a0 i).2 c1 c2 c3 c4 c5 hstop hbd.1).1 hcl2 (by
         rw [a0T,hrun];have h7:=hbd.2;rw [hkid,List.length_map] at h7;exact h7)
        rw [this,a0T,hrun,List.map_map];have hfun:(fun x=>l++[i]++x)=((fun x=>l++x)∘fun x=>i::x):=by funext x;simp
        rw [hfun])
     (fun i hi hs=>b2z l one a0 hi hs)
    have h00:a3N S h must l one a0 0=a0:=rfl;rw [h00] at hL;simp only [a0l];have hfw:IntKind.i64.wrap (found+1)=found+1:=a8P _ (by omega) (by omega);cases he:a1L h (a0B l) with
    | false =>
      rw [he] at ha0;simp only [cond_false] at ha0 ⊢;subst ha0;simp only [a0l,hL]
    | true =>
      rw [he] at ha0;simp only [cond_true] at ha0 ⊢;subst ha0;have hfirst:(bif decide (found=0) then some (a1s l) else some (a1s first))=some (a1s (bif decide (found=0) then l else first)):=by cases decide (found=0) <;> rfl
      simp only [a0F,hcopy,a0l,hfirst,a0g,a0i,hfw,hL]
   intro hd;have hends:=b4H hd;have hL:=hloop (fun _=>(found,first)) (fun i hi hstop c hci=>⟨fun _=>rfl,fun hgo=>by
    obtain ⟨c1,c2,c3,c4,c5⟩:=hchild i c hci hgo;have hd2:dead must h (a0B (l++[i])):=by
     obtain ⟨k,j,c0,d0,hk,hj,b1,b2,b3,b4⟩:=hd;refine ⟨k,j,c0,d0,hk,hj,by rw [a0T,a2D,b1];rfl,?_,b3,b4⟩;rw [a0T,a2D,b2,Bool.false_or,decide_eq_false_iff_not];rintro rfl;rw [hci] at hk;cases hk;simp only [zp4,Bool.not_eq_true',List.any_eq_false] at hgo;rw [a1H] at b1;have:=hgo.2.2 (j:Int) (a5e.2 (by simpa using b1));rw [a4D hj,b4] at this;exact this rfl
    exact (ih (l++[i]) one found first c1 c2 c3 c4 c5 hone hf0).2 hd2⟩) (fun _ _ _=>rfl)
   simp only [a0l,hends,cond_false,hL]
end
theorem b4I {S:List Spec} {h:List Call} {must:Call->Call->Bool} (ha:a6Y S=true) (hl:h.length<=8) (hok : ∀ c∈h,a1r c=true/\a4h S c) (hm:MustOk must h) (thr:Bool)
  (hkeep : ∀ l:List Int,l.length<Lg->(∀ x∈l,inH h x=true)->(bif thr then b1V Ar.std (a0b h) (a0d l) else a8Y Ar.std (a0b h) (a0d l))=some (a2t must h l)) (one:Bool) :
  Z93 Ar.std [] one (a0E S) (a0b h) thr 0 []=some (thr,(((a3Q S h must 0 (0,0))).foldl (a1M one) (0,[])).1,a1s ((a3Q S h must 0 (0,0)).foldl (a1M one) (0,[])).2):=by
 have hr:room h (a0B [])<fuel:=by
  have:=List.countP_le_length (p:=fun i => !(a0B []).testBit i) (l:=List.range h.length);rw [List.length_range] at this;rw [b4h];unfold room;omega
 have hb:=b0K S h must hl 0 (0,0);have:=(b8T ha hl hok hm thr hkeep fuel [] one 0 [] hr rfl (a6Z ha) rfl rfl (by cases one <;> rfl) (Int.le_refl _)).1
  (fun k i c d _ _ hb _=>by simp [a0B] at hb) (by
   show (0:Int)+((a3Q S h must 0 (0,0)).length:Int)<2000000000;omega)
 have e:((a3Q S h must (a0B []) (a3e S h [])).map ([] ++ ·))=a3Q S h must 0 (0,0):=by
  show (a3Q S h must 0 (0,0)).map _=_;simp
 rw [e] at this;exact this
theorem b4J : ∀ (L:List (List Nat)),L.foldl (a1M true) (0,[])=match L with | []=>(0,[]) | x::_=>(1,x)
 | []=>rfl
 | x::L=>by
   rw [List.foldl_cons];show L.foldl (a1M true) (1,x)=(1,x);exact a4N rfl L
section
variable (S:List Spec) (h:List Call) (hs:a1Y S) (hl:h.length<Lg)
include hs hl
theorem c1z:Z50 Ar.std (a0E S) (a0b h)=some (a1s (b1A S h).1,(b1A S h).2):=by
 simp only [Z50,c1o S h hs hl,a0l,a0F,b1A];by_cases he:a5V S h=0
 ·obtain ⟨ha,hf⟩:=a7a he;obtain ⟨h8,hok⟩:=b4G ha hf;have e:=b4I (S:=S) (h:=h) (must:=bef) ha h8 hok (b1C fun c hc=>(hok c hc).1) false (fun l hll hin=>b6t l hll hin) true;simp only [he,decide_true,cond_true,e,a0l,b4J,a5X];cases a3Q S h bef 0 (0,0) with
  | nil=>simp [a1s]
  | cons l r=>simp
 simp [he,a1s]
theorem c1A:Z14 Ar.std (a0E S) (a0b h)=some (decide (a5V S h=0) && !(a5X S h).isEmpty,a5V S h):=by
 simp only [Z14,c1z S h hs hl,a0l,a0F,b1A];by_cases he:a5V S h=0
 ·simp only [he,decide_true,cond_true,Bool.true_and];cases a5X S h <;> simp
 have h5 : ¬ a5V S h=5:=by unfold a5V;cases a6Y S <;> cases b1z S h <;> simp
 simp [he,h5]
end
end Go.Am
