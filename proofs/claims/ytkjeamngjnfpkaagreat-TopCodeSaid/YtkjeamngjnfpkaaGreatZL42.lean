import Derived.Test.YtkjeamngjnfpkaaGreatZL18
import Derived.Test.YtkjeamngjnfpkaaGreatZH12
set_option maxRecDepth 100000
set_option maxHeartbeats 2000000
set_option linter.unusedVariables false
set_option linter.unusedSimpArgs false
set_option linter.unusedSectionVars false
namespace Go.Am
open Go
def goF (s:Spec):List Int->Int×List Int->Int×List Int
 | [],p=>p
 | o::r,p=>goF s r (nx s.2.2.1 p.1 o,p.2++[nx s.2.2.2 p.1 o])
theorem b4L (s:Spec) : ∀ (a b:List Int) (p:Int×List Int),goF s (a++b) p=goF s b (goF s a p)
 | [],_,_=>rfl
 | _::a,b,p=>b4L s a b _
section
variable {s:Spec} (hs:a0C s.2.2.1/\a0C s.2.2.2) (hk:a0P s=true)
include hs hk
theorem b1I:(1<=s.1/\s.1<=8)/\(1<=s.2.1/\s.2.1<=4):=⟨((a2i s).1 hk).1,((a2i s).1 hk).2.1⟩
theorem b6B (r:List Int) (hr:r.length<Lg) (t u:List D):b3i Ar.std (a0d r) s.1 s.2.1 t u=some (r.any fun n => !btw 0 n (s.1-1)):=by
 have hb:=b1I hs hk;have hw:IntKind.i64.wrap (s.1-1)=s.1-1:=a8P _ (by omega) (by omega);have e:iter (a6u Ar.std (a0d r) s.1 s.2.1 t u) 0=some ((r.findIdx? fun n => !btw 0 n (s.1-1)).elim (.inl ()) (fun i => .inr (i:Int))):=by
  refine a1o r _ _ _ (fun i n hn hi => ?_) ?_
  ·simp [a6u,c2F,a8w,a0t hn,hi,a0G hi hr,hw]
  simp [a6u]
 simp only [b3i,b5v,e,a0l,a1p,a0Z,a2g]
theorem b6C (r:List Int) (hr:r.length<Lg) (t u:List D):b3j Ar.std (a0d r) s.1 s.2.1 t u=some (r.any fun n => !btw 0 n (s.2.1-1)):=by
 have hb:=b1I hs hk;have hw:IntKind.i64.wrap (s.2.1-1)=s.2.1-1:=a8P _ (by omega) (by omega);have e:iter (a6v Ar.std (a0d r) s.1 s.2.1 t u) 0=some ((r.findIdx? fun n => !btw 0 n (s.2.1-1)).elim (.inl ()) (fun i => .inr (i:Int))):=by
  refine a1o r _ _ _ (fun i n hn hi => ?_) ?_
  ·simp [a6v,c2G,a8w,a0t hn,hi,a0G hi hr,hw]
  simp [a6v]
 simp only [b3j,b5w,e,a0l,a1p,a0Z,a2g]
theorem b6D (w:List Int) (hl:w.length<=20) (hi : ∀ o∈w,0<=o/\o<s.2.1) :
  iter (a7z Ar.std (a0r s.2.2.1) (a0r s.2.2.2) (a0d w)) (0,[],0)=some ((goF s w (0,[])).1,a0d (goF s w (0,[])).2):=by
 have hb:=b1I hs hk;obtain ⟨_,_,ht1,ht2⟩:=(a2i s).1 hk;obtain ⟨p,⟨hp,_⟩,e⟩:=a3C (step:=a7z Ar.std (a0r s.2.2.1) (a0r s.2.2.2) (a0d w)) w.length (fun (p:Int×List Int) (i:Nat)=>(p.1,a0d p.2,(i:Int)))
  (fun i p=>p=goF s (w.take i) (0,[])/\(0<=p.1/\p.1<s.1)/\p.2.length=i) (fun p=>(p.1,a0d p.2))
  (fun i p hi' ⟨hR,hb1,hn⟩=>by
   have hx:=zp1 hi';have ho:=hi _ (zp6 hi');generalize w[i]=o at hx ho;obtain ⟨r1,a1,a2,a3,a4⟩:=a4M ht1 hb1.1 hb1.2 ho.1 ho.2;obtain ⟨r2,b1,b2,_,_⟩:=a4M ht2 hb1.1 hb1.2 ho.1 ho.2;refine ⟨(nx s.2.2.1 p.1 o,p.2++[nx s.2.2.2 p.1 o]),⟨?_,⟨a3,by show nx s.2.2.1 p.1 o<s.1;omega⟩,by simp [hn]⟩,?_⟩
   ·rw [a0J hx,b4L,<-hR];rfl
   unfold a7z;refine cnT (by simp;omega) (bt (a0t hx) (bt (a1O hb1.1 b1) (bt (a1R ho.1 b2) (bt (a1y (c:=cI .i64) rfl (by omega)) (bt (a1O hb1.1 a1) (bt (a1R ho.1 a2) ?_))))));simp only [a0g,a0i,a0G (i:=i) (n:=200) (by omega) (by decide)])
  (fun p _=>by unfold a7z;exact cnF (by simp) rfl) (0,[]) ⟨rfl,⟨Int.le_refl _,by show (0:Int)<s.1;omega⟩,rfl⟩
 rw [List.take_length] at hp;subst hp;exact e
theorem c1D (w:List Int) (hl:w.length<=20) (hi : ∀ o∈w,0<=o/\o<s.2.1) :
  Z98 Ar.std s.1 s.2.1 (a0r s.2.2.1) (a0r s.2.2.2) 0 (a0d w)=some (a0d (goF s w (0,[])).2,(goF s w (0,[])).1,0):=by
 have hb:=b1I hs hk;have e1:b9Q Ar.std s.1 s.2.1 (a0r s.2.2.1) (a0r s.2.2.2) (a0d [0])=some true:=by
  unfold b9Q;refine bt (b6B hs hk [0] (by decide) _ _) ?_;simp [btw];omega
 have hl':w.length<Lg:=Nat.lt_of_le_of_lt hl (by decide);have e2:b9R Ar.std s.1 s.2.1 (a0r s.2.2.1) (a0r s.2.2.2) (a0d w)=some true:=by
  unfold b9R;refine bt (v:=true) ?_ rfl;refine cnT (by simp;omega) (bt (v:=true) ?_ rfl);unfold c2H;refine bt (b6C hs hk w hl' _ _) ?_;have:(w.any fun n => !btw 0 n (s.2.1-1))=false:=by
   rw [List.any_eq_false];intro o ho;have:=hi o ho;rw [(a0n _ _ _).2 (by omega)];simp
  rw [this];rfl
 have e3:b9S Ar.std s.1 s.2.1 (a0r s.2.2.1) (a0r s.2.2.2) 0 (a0d w)=some (s.1,s.2.1,a0r s.2.2.1,a0r s.2.2.2,0):=by
  unfold b9S;refine bt (b4r s hs.1 hs.2) ?_;rw [hk];refine cnT rfl (bt (v:=true) ?_ rfl);unfold c2I;exact bt (v:=true) (bt e1 (cnT rfl (bt e2 rfl))) rfl
 unfold Z98;refine bt e3 ?_;refine cnT rfl (bt (v:=(a0d (goF s w (0,[])).2,(goF s w (0,[])).1)) ?_ rfl);unfold c2J;exact bt (b6D hs hk w hl hi) rfl
end
theorem c1E (a b:List Int) (hl:a.length<Lg):Z99 Ar.std (a0d a) (a0d b)=some (decide (a=b)):=by
 unfold Z99;by_cases hn:a.length=b.length
 ·refine cnT (by simp [hn]) ?_;have e:=a2V (step:=b3k Ar.std (a0d a) (a0d b)) a.length (fun i => !decide (a[i]?=b[i]?)) (.inr ()) (.inl ()) (fun i hi=>by
   have h1:=zp1 hi;have h2:=zp1 (show i<b.length by omega);unfold b3k;refine cnT (by simp;omega) (bt (a0t h1) (bt (a0t h2) ?_));rw [h1,h2];cases hd:decide (a[i]=b[i]) with
   | true=>refine cnT hd ?_;simp only [a0g,a0i,a0G hi hl];simp [of_decide_eq_true hd]
   | false=>refine cnF hd ?_;simp [of_decide_eq_false hd]) (by unfold b3k;exact cnF (by simp) rfl)
  refine bt e ?_;cases hb:(List.range a.length).any fun i => !decide (a[i]?=b[i]?) with
  | true =>
    obtain ⟨i,_,h⟩:=List.any_eq_true.1 hb;have : ¬ a=b:=fun h'=>by subst h';simp at h
    rw [decide_eq_false this];rfl
  | false =>
    have:a=b:=by
     refine List.ext_getElem? fun i => ?_;rcases Nat.lt_or_ge i a.length with h | h
     ·have:=(List.any_eq_false.1 hb) i (List.mem_range.2 h);simpa using this
     rw [List.getElem?_eq_none h,List.getElem?_eq_none (by omega)]
    rw [decide_eq_true this];rfl
 refine cnF (by simp;omega) ?_;rw [decide_eq_false (fun h=>hn (by rw [h]))]
def b2I (h:List Call) (i:Nat):Int:=(h.getD i (0,0,0,0,0,0)).op
def b6E (h:List Call) (i:Nat):Int:=(h.getD i (0,0,0,0,0,0)).sa
def c1F (s:Spec) (h:List Call) (l:List Nat):Bool:=decide ((goF s (l.map (b2I h)) (0,[])).2=l.map (b6E h))
theorem c1G {s:Spec} (hs:a0C s.2.2.1/\a0C s.2.2.2) (hk:a0P s=true) (h:List Call) (l:List Nat) (hl:l.length<=20) (hlt : ∀ i∈l,i<h.length) (hop : ∀ x∈h,0<=x.op/\x.op<s.2.1) :
  Z57 Ar.std s.1 s.2.1 (a0r s.2.2.1) (a0r s.2.2.2) (a0b h) (a0d (cN' l))=some (c1F s h l):=by
 have hln:(cN' l).length=l.length:=by unfold cN';rw [List.length_map]
 obtain ⟨p,hp,e⟩:=a3C (step:=b3l Ar.std (a0b h) (a0d (cN' l))) l.length (fun (p:List Int×List Int) (i:Nat)=>(a0d p.1,a0d p.2,(i:Int)))
  (fun i p=>p=((l.take i).map (b2I h),(l.take i).map (b6E h))) (fun p=>(a0d p.1,a0d p.2))
  (fun i p hi hR=>by
   have hx:=zp1 hi;have hj:=hlt _ (zp6 hi);generalize l[i]=j at hx hj;have hx':(cN' l)[i]?=some (j:Int):=by unfold cN';rw [List.getElem?_map,hx];rfl
   have hc:=zp1 hj;have e1:b2I h j=h[j].op:=by unfold b2I;rw [a0H hc]
   have e2:b6E h j=h[j].sa:=by unfold b6E;rw [a0H hc]
   refine ⟨(p.1++[h[j].op],p.2++[h[j].sa]),?_,?_⟩
   ·rw [hR,a0J hx,List.map_append,List.map_append,<-e1,<-e2];rfl
   have b1:p.1.length<=20:=by rw [hR,List.length_map,List.length_take];omega
   have b2:p.2.length<=20:=by rw [hR,List.length_map,List.length_take];omega
   unfold b3l;refine cnT (by rw [a0p,hln];simp;omega) (bt (a0t hx') (bt (a0t hc) (bt (a1y (c:=cI .i64) rfl (by omega)) (bt (a1y (c:=cI .i64) rfl (by omega)) ?_))));simp only [a0g,a0i,a0G (i:=i) (n:=200) (by omega) (by decide)]
   rfl)
  (fun p _=>by unfold b3l;exact cnF (by rw [a0p,hln];simp) rfl) ([],[]) rfl
 rw [List.take_length] at hp;subst hp;unfold Z57;refine bt e ?_;have hw:(l.map (b2I h)).length<=20:=by rw [List.length_map];exact hl
 refine bt (c1D hs hk (l.map (b2I h)) hw (fun o ho=>by
  obtain ⟨i,hi,rfl⟩:=List.mem_map.1 ho;have:=hlt i hi;unfold b2I;rw [a0H (zp1 this)];exact hop _ (zp6 this))) ?_
 refine bt (v:=c1F s h l) ?_ rfl;refine cnT rfl (bt (c1E _ _ ?_) rfl);have : ∀ (w:List Int) (p:Int×List Int),(goF s w p).2.length=p.2.length+w.length:=by
  intro w
  induction w with
  | nil=>intro p;rfl
  | cons o r ih=>intro p;show (goF s r _).2.length=_;rw [ih,List.length_append,List.length_cons];simp;omega
 rw [this];exact Nat.lt_of_le_of_lt (by simpa using hw) (by decide:20<Lg)
def b2B (s:Spec) (u:Tab) (m:Mc):Bool:=bif a0S u m then (bif a5U u m then c1F s m.h (a6f m) else false) else true
theorem c1H {s:Spec} (hs:a0C s.2.2.1/\a0C s.2.2.2) (hk:a0P s=true) {u:Tab} {m:Mc} (hI:MkI m) (hl:m.ms.length=m.h.length) (hst:m.st<=100) (h2:u.length<=2) (hh:m.h.length<=20) (hop : ∀ x∈m.h,0<=x.op/\x.op<s.2.1) (x1 x23:List D) :
  Z54 Ar.std x1 (a0r u) m.a.cl m.a.ln m.a.r0 m.a.r1 m.a.r2 m.a.r3 m.a.at_ m.b.cl m.b.ln m.b.r0 m.b.r1 m.b.r2 m.b.r3 m.b.at_ m.c0 m.c1 m.c2 m.st (a0b m.h) (a0d m.ms) x23 s.1 s.2.1 (a0r s.2.2.1) (a0r s.2.2.2)=some (b2B s u m):=by
 unfold Z54 b2B;refine bt (b4A x1 m h2) ?_;unfold a0S;cases hl2:a0y u m with
 | cons t r=>exact cnT (by simp <;> omega) rfl
 | nil =>
   refine cnF (by simp) (bt (c1l hI hl hst h2 (by omega) x1) ?_);cases hok:a5U u m with
   | false=>rfl
   | true =>
     have hlen:(a6f m).length<=20:=by
      have hz:a6X m=false:=by
       unfold a5U at hok;rw [zp4] at hok;simpa using hok.2
      have:=(a5d hI hl hz).length_eq;rw [List.length_range] at this;omega
     refine bt (v:=c1F s m.h (a6f m)) (cnT rfl (bt (c1G hs hk m.h (a6f m) hlen (fun i hi=>((a2C hI hl).1 hi).1) hop) rfl)) rfl
theorem b6F:c2E=Z94:=rfl
theorem a3H {u:Tab} (x1:List D) (m:Mc) (h2:u.length<=2):b1X Ar.std x1 (a0r u) m.a.cl m.a.ln m.a.r0 m.a.r1 m.a.r2 m.a.r3 m.a.at_ m.b.cl m.b.ln m.b.r0 m.b.r1 m.b.r2 m.b.r3 m.b.at_ m.c0 m.c1 m.c2 m.st (a0b m.h) (a0d m.ms)=some (a0d (a0y u m)):=by
 unfold b1X;refine bt (b4p (n:=u.length) h2 (fun t=>a3b u t m) id (fun i o hi ho => ?_) (fun o => ?_)) rfl
 ·unfold b0Z;rw [b6F];refine cnT (by simp;omega) (bt (b8B x1 h2 (i:Int)) (bt (v:=a0d (bif a3b u (i:Int) m then o++[(i:Int)] else o)) ?_ ?_))
  ·cases a3b u (i:Int) m with
   | false=>rfl
   | true=>exact cnT rfl (bt (a1y (c:=cI .i64) rfl (by omega)) rfl)
  simp only [a0g,a0i,a0G hi (by omega)]
 unfold b0Z;exact cnF (by simp) rfl
theorem a3t {u:Tab} (h2:u.length<=2) (m:Mc):(a0y u m).length<=2:=by
 unfold a0y;rw [List.length_map];refine Nat.le_trans (List.length_filter_le _ _) ?_;rw [List.length_range'];exact h2
theorem a7f (l:List D) (h:l.length<4294967296):b9T Ar.std l=some l:=by
 have e:ap Ar.std [] l=some l:=by simpa using b7m (l:=[]) (m:=l) (by simpa using (by omega:(l.length:Int)<4294967296))
 unfold b9T;cases l with
 | nil=>exact cnF rfl (by rw [e];exact a9A _)
 | cons x r=>exact cnT (by simp <;> omega) (by rw [e];rfl)
theorem a5g (h:List Int):scalars (a0d h)=true:=by
 simp only [scalars,a0d,enc,List.all_map,List.all_eq_true];intro x _;rfl
def a1J (c:Code) (u:Tab) (mks:List Int):Nat->Mc->List Mc
 | 0,m=>[m]
 | k+1,m=>bif a0S u m then [m] else (a0y u m).flatMap fun t=>a1J c u mks k (a0j c u mks t.toNat m)
theorem a7g {α X:Type} (p:α->Bool) (g:α->X) (G:X->Option Bool) (hG : ∀ a,G (g a)=some false) : ∀ l:List α,
  Sum.elim (fun _:Unit=>some true) G (a5T (fun (_:Unit) a=>bif p a then .inl () else .inr (.inr (g a))) (fun _=>(.inl ():Unit⊕X)) l ())=some (l.all p)
 | []=>rfl
 | a::r=>by
   rw [a3n,List.all_cons];cases p a with
   | true=>exact a7g p g G hG r
   | false=>exact hG a
abbrev c1I:=List D->List D->Int->Int->Int->Int->Int->Int->Int->Int->Int->Int->Int->Int->Int->Int->Int->Int->Int->Int->List D->List D->Int->List D->List D->Int->Int->List D->List D->Option Bool
section
variable {s:Spec} (hs:a0C s.2.2.1/\a0C s.2.2.2) (hk:a0P s=true) {c:Code} {u:Tab} {mks:List Int} (hmk:b0d c mks) (hv:a1e c=true) (hu:a3E c u=true) (ho:s.2.1=(c.length:Int))
def b8W (s:Spec) (c:Code) (u:Tab) (mks:List Int) (k:Nat) (slf:c1I):Prop :=
 ∀ (m:Mc) (sch:List Int),MInv c u m->TInv c u m->MkI m->m.st+k=12->(sch.length:Int)<=m.st ->
   slf (a0o c) (a0r u) m.a.cl m.a.ln m.a.r0 m.a.r1 m.a.r2 m.a.r3 m.a.at_ m.b.cl m.b.ln m.b.r0 m.b.r1 m.b.r2 m.b.r3 m.b.at_ m.c0 m.c1 m.c2 m.st (a0b m.h) (a0d m.ms) 12 (a0d mks) (a0d sch) s.1 s.2.1 (a0r s.2.2.1) (a0r s.2.2.2)=some ((a1J c u mks k m).all (b2B s u))
include hmk hv hu in
theorem a5h {m:Mc} (hi:MInv c u m) (hT:TInv c u m) {t:Int} (ht:a3b u t m=true):TInv c u (a0j c u mks t.toNat m):=by
 obtain ⟨h2,⟨g⟩⟩:=go1 hv hu hi (t:=t.toNat) (by
  have h0:0<=t:=by simp only [a3b,zp4,a0n] at ht;omega
  rw [Int.toNat_of_nonneg h0];exact ht)
 have T:=(a9M hi hT h2 g).1;exact ⟨T.one,T.two,T.ops,T.le,T.st0⟩
include hs hk hmk hv hu ho
theorem b4M (k:Nat) (slf:c1I) (hself : ∀ k',k=k'+1->b8W s c u mks k' slf):b8W s c u mks k (b3m Ar.std slf):=by
 intro m sch hi hT hM hst hsch;have h2:=b8C mks hmk hv hu;have hhs:=hi.st;have hms:=hi.ms;have hst0:=hT.st0;have hop : ∀ x∈m.h,0<=x.op/\x.op<s.2.1:=fun x hx=>by
  obtain ⟨_,_,h3,_⟩:=hT.one x hx;rw [ho];exact h3
 unfold b3m;refine bt (a3H (a0o c) m h2) ?_;refine bt (v:=a0S u m||decide (m.st=12)) ?_ ?_
 ·unfold a0S;cases hl:a0y u m with
  | nil=>rfl
  | cons t r=>exact cnF (by simp <;> omega) rfl
 cases hb:(a0S u m||decide (m.st=12)) with
 | true =>
   have he:a1J c u mks k m=[m]:=by
    cases k with
    | zero=>rfl
    | succ k =>
      unfold a1J;have:a0S u m=true:=by
       rw [Bool.or_eq_true,decide_eq_true_eq] at hb;rcases hb with h | h
       ·exact h
       omega
      rw [this,cond_true]
   rw [he];refine cnT rfl (bt (c1H hs hk hM hms (by omega) h2 (by omega) hop _ _) ?_);simp
 | false =>
   rw [Bool.or_eq_false_iff,decide_eq_false_iff_not] at hb;obtain ⟨k',rfl⟩ : ∃ k',k=k'+1:=⟨k-1,by have:=hb.2;omega⟩;have hself:=hself k' rfl;have hll:=a3t h2 m;refine cnF rfl ?_;have he:a1J c u mks (k'+1) m=(a0y u m).flatMap fun t=>a1J c u mks k' (a0j c u mks t.toNat m):=by
    show (bif a0S u m then [m] else _)=_
    rw [hb.1,cond_false]
   rw [he,List.all_flatMap];refine bt (a4p (a0y u m) (fun (_:Unit) (i:Nat)=>(i:Int)) (fun _ t=>bif (a1J c u mks k' (a0j c u mks t.toNat m)).all (b2B s u) then .inl () else .inr (.inr (a0o c,a0r u,(a0j c u mks t.toNat m).a.cl,(a0j c u mks t.toNat m).a.ln,(a0j c u mks t.toNat m).a.r0,(a0j c u mks t.toNat m).a.r1,(a0j c u mks t.toNat m).a.r2,(a0j c u mks t.toNat m).a.r3,(a0j c u mks t.toNat m).a.at_,(a0j c u mks t.toNat m).b.cl,(a0j c u mks t.toNat m).b.ln,(a0j c u mks t.toNat m).b.r0,(a0j c u mks t.toNat m).b.r1,(a0j c u mks t.toNat m).b.r2,(a0j c u mks t.toNat m).b.r3,(a0j c u mks t.toNat m).b.at_,(a0j c u mks t.toNat m).c0,(a0j c u mks t.toNat m).c1,(a0j c u mks t.toNat m).c2,(a0j c u mks t.toNat m).st,a0b (a0j c u mks t.toNat m).h,a0d (a0j c u mks t.toNat m).ms))) (fun _ => .inl ()) (fun i t _ hn hlt => ?_) (fun _ => ?_) ()) ?_
   ·have ht:=a2N (List.mem_of_getElem? hn);have hn1:=a2s mks hmk hv hu hi ht;have hsl:sl Ar.std (a0d sch) 0 (Ar.std.len (a0d sch))=some (a0d sch):=by
     rw [a0p,a4L (Nat.le_refl _),List.take_length]
    unfold b1a;refine cnT (by simp;omega) (bt (a0t hn) (bt (v:=(a0o c,a0r u,m.a.cl,m.a.ln,m.a.r0,m.a.r1,m.a.r2,m.a.r3,m.a.at_,m.b.cl,m.b.ln,m.b.r0,m.b.r1,m.b.r2,m.b.r3,m.b.at_,m.c0,m.c1,m.c2,m.st,a0b m.h,a0d m.ms)) ?_ (bt (a9H mks hmk hv hu hi (by omega) ht) (bt hsl (bt (v:=()) (by simp [ck]) (bt (a1y (c:=cI .i64) rfl (by omega)) (bt (hself (a0j c u mks t.toNat m) (sch++[t]) hn1 (a5h hmk hv hu hi hT ht) (b1y mks hM hst0) (by show m.st+1+(k':Int)=12;omega) (by rw [List.length_append];show ((sch.length+1:Nat):Int)<=m.st+1;omega)) ?_)))))))
    ·unfold Z83;exact bt (a7f _ (by simp;omega)) (bt (v:=()) (by rw [a3q];rfl) (bt (a7Q (c:=[]) ⟨by decide,fun r h=>by cases h⟩ (u:=[]) ⟨by decide,fun r h=>by cases h⟩ (sch:=[]) (by decide) _ (by simp;omega)) (bt (v:=()) (by rw [a5g];rfl) rfl)))
    cases (a1J c u mks k' (a0j c u mks t.toNat m)).all (b2B s u) with
    | true =>
      refine cnT rfl ?_;simp only [a0g,a0i,a0G hlt (by omega)];rfl
    | false=>exact cnF rfl rfl
   ·unfold b1a;exact cnF (by simp) rfl
   refine a7g (fun t:Int=>(a1J c u mks k' (a0j c u mks t.toNat m)).all (b2B s u)) _ _ ?_ _;intro a;rfl
theorem b1J : ∀ (k j:Nat),k<j->b8W s c u mks k (b3n Ar.std j)
 | k,0,h=>by omega
 | k,j+1,h=>b4M hs hk hmk hv hu ho k (b3n Ar.std j) fun k' hk'=>b1J k' j (by omega)
theorem c1J:Z36 Ar.std (a0o c) (a0r u) 0 0 0 0 0 0 0 0 0 0 0 0 0 0 0 0 0 0 12 (a0d mks) [] s.1 s.2.1 (a0r s.2.2.1) (a0r s.2.2.2) [] []=some ((a1J c u mks 12 mc0).all (b2B s u)) :=
 b4M hs hk hmk hv hu ho 12 (c3b Ar.std) (fun k' hk'=>b1J hs hk hmk hv hu ho k' fuel (by unfold fuel;omega)) mc0 [] (a7v c u) (b4u c u) c4G (by simp [mc0]) (by simp [mc0])
end
def er (m:Mc):Mc:={ m with ms:=[] }
theorem c1K (m:Mc):m={ er m with ms:=m.ms }:=rfl
theorem b7C (u:Tab) (t:Int) (m:Mc):a3b u t (er m)=a3b u t m:=rfl
theorem b4N (u:Tab) (m:Mc):a0y u (er m)=a0y u m:=rfl
theorem b6G (c:Code) (u:Tab) (mks mks':List Int) (t:Nat) (e:Mc) (x y:List Int):er (a0j c u mks t { e with ms:=x })=er (a0j c u mks' t { e with ms:=y }):=by
 have hx : ∀ z:List Int,({ e with ms:=z }:Mc).hd t=e.hd t:=fun _=>rfl
 unfold er a0j stH stX stL stB;simp only [hx];cases (e.hd t).inn with
 | true=>rfl
 | false=>rfl
theorem b8X {c:Code} {u:Tab} (mks mks':List Int) (t:Nat) {m m':Mc} (h:er m=er m'):er (a0j c u mks t m)=er (a0j c u mks' t m'):=by
 rw [c1K m,c1K m',h];exact b6G c u mks mks' t (er m') m.ms m'.ms
theorem b4O {c:Code} {u:Tab} (mks mks':List Int) : ∀ (sch:List Int) (m m':Mc),er m=er m'->(a1a c u mks sch m).2=(a1a c u mks' sch m').2/\er (a1a c u mks sch m).1=er (a1a c u mks' sch m').1
 | [],m,m',h=>⟨rfl,h⟩
 | t::r,m,m',h=>by
   have e:a3b u t m=a3b u t m':=by rw [<-b7C u t m,<-b7C u t m',h]
   unfold a1a;rw [<-e];cases a3b u t m with
   | false=>exact ⟨rfl,h⟩
   | true=>exact b4O mks mks' r _ _ (b8X mks mks' _ h)
theorem b6H {u:Tab} {m:Mc} {t:Int} (h:a3b u t m=true):t∈a0y u m:=by
 have hb:=h;simp only [a3b,zp4,a0n] at hb;unfold a0y;refine List.mem_map.2 ⟨t.toNat,List.mem_filter.2 ⟨List.mem_range'.2 ⟨t.toNat,by omega,by omega⟩,?_⟩,by omega⟩;rw [Int.toNat_of_nonneg (by omega)];exact h
theorem a9T {c:Code} {u:Tab} {mks:List Int} : ∀ (sch:List Int) (m:Mc) (k:Nat),(a1a c u mks sch m).2=true->a0S u (a1a c u mks sch m).1=true->sch.length<=k->(a1a c u mks sch m).1∈a1J c u mks k m
 | [],m,0,_,_,_=>List.mem_singleton.2 rfl
 | [],m,k+1,_,ho,_=>by
   have ho:a0S u m=true:=ho;unfold a1J;rw [ho];exact List.mem_singleton.2 rfl
 | t::r,m,0,_,_,hl=>by simp at hl
 | t::r,m,k+1,hd,ho,hl=>by
   unfold a1a at hd ho ⊢;cases ht:a3b u t m with
   | false=>rw [ht] at hd;cases hd
   | true =>
     rw [ht,cond_true] at hd ho;rw [cond_true];have hm:=b6H ht;have hov:a0S u m=false:=by
      unfold a0S;cases hq:a0y u m with
      | nil=>rw [hq] at hm;cases hm
      | cons _ _=>rfl
     unfold a1J;rw [hov,cond_false];exact List.mem_flatMap.2 ⟨t,hm,a9T r _ k hd ho (by simpa using hl)⟩
structure TMk (m:Mc):Prop where
 tm : ∀ (i:Nat) (x:Int) (y:Call),m.ms[i]?=some x->m.h[i]?=some y->x≠0->y.fr<=2*x-1/\(y.to=0\/2*x<=y.to)
theorem c5p:TMk mc0:=⟨fun i x y h=>by simp [mc0] at h⟩
section
variable {c:Code} {u:Tab} {t:Nat} {m:Mc}
theorem b6I (mks:List Int) (hi:MInv c u m) (hT:TInv c u m) (hM:MkI m) (hK:TMk m) (ht:t<2) (g:Go1 c u t m):TMk (a0j c u mks t m):=by
 have B:=c2W (u:=u) hi ht;have T:=tb hi hT ht g;have hst:=hT.st0;obtain ⟨x0,hx0,hx1,hx2,hx3⟩:=B.here;obtain ⟨d0,d1,d2,d3⟩:=B.reg;obtain ⟨e0,e1,e2⟩:=hi.cel

 have hA : ∀ (i:Nat) (x:Int) (y:Call),(stB u t m).2.2.2.2.2.2[i]?=some x->(stB u t m).2.2.2.2.2.1[i]?=some y->x≠0->(y.fr<=2*x-1/\(y.to=0\/2*x<=y.to))/\x<=m.st:=by
  intro i x y h1 h2 hne;cases hin:(m.hd t).inn with
  | true =>
    have e:stB u t m=((m.hd t).r0,(m.hd t).r1,(m.hd t).r2,(m.hd t).r3,(m.hd t).at_,m.h,m.ms):=by unfold stB beg;rw [hin];rfl
    rw [e] at h1 h2;exact ⟨hK.tm i x y h1 h2 hne,(hM.rng i x h1).2⟩
  | false =>
    have e:stB u t m=(0,1,0,0,(m.h.length:Int),m.h++[((t:Int),0,a3p u t (m.hd t).cl,0,2*m.st+1,0)],m.ms++[0]):=by unfold stB beg;rw [hin];rfl
    rw [e] at h1 h2;replace h1:(m.ms++[0])[i]?=some x:=h1;replace h2:(m.h++[((t:Int),0,a3p u t (m.hd t).cl,0,2*m.st+1,0)])[i]?=some y:=h2;have hms:=hi.ms;rcases Nat.lt_or_ge i m.ms.length with h | h
    ·rw [zp7 h] at h1;rw [zp7 (by omega)] at h2;exact ⟨hK.tm i x y h1 h2 hne,(hM.rng i x h1).2⟩
    rw [zp8 h] at h1
    match hq:i-m.ms.length,h1 with
    | 0,h1=>simp at h1;exact absurd h1.symm hne
    | k+1,h1=>simp at h1

 have hs:(a0j c u mks t m).ms=mkd mks (a3p u t (m.hd t).cl) (m.hd t).ln (stB u t m).2.2.2.2.1 (m.st+1) (stB u t m).2.2.2.2.2.2:=rfl;have hB : ∀ (i:Nat) (x:Int),(a0j c u mks t m).ms[i]?=some x->(stB u t m).2.2.2.2.2.2[i]?=some x\/(i=(stB u t m).2.2.2.2.1.toNat/\x=m.st+1):=by
  intro i x hx;rw [hs] at hx;unfold mkd at hx;cases hmk:a9F mks (a3p u t (m.hd t).cl) (m.hd t).ln with
  | false=>rw [hmk] at hx;exact .inl hx
  | true =>
    rw [hmk,cond_true] at hx;by_cases h:(stB u t m).2.2.2.2.1.toNat=i
    ·subst h;have hl:=(zp2.1 hx).1;rw [List.length_set] at hl;rw [List.getElem?_set_self hl] at hx;exact .inr ⟨rfl,(Option.some.inj hx).symm⟩
    rw [List.getElem?_set_ne h] at hx;exact .inl hx

 have hC : ∀ (i:Nat) (y:Call),(a0j c u mks t m).h[i]?=some y -> ∃ z,(stB u t m).2.2.2.2.2.1[i]?=some z/\y.fr=z.fr/\(y.to=z.to\/(i=(stB u t m).2.2.2.2.1.toNat/\y.to=2*(m.st+1))):=by
  intro i y hy;by_cases h7:(stL c u t m).1=7
  ·have e:stX c u t m=_:=b8z (st:=m.st+1) (cl:=(m.hd t).cl) (ln:=(m.hd t).ln) (r0:=(stB u t m).1) (r1:=(stB u t m).2.1) (r2:=(stB u t m).2.2.1) (r3:=(stB u t m).2.2.2.1) (c0:=m.c0) (c1:=m.c1) (c2:=m.c2) h7 hx0;have eh:(a0j c u mks t m).h=(stB u t m).2.2.2.2.2.1.set (stB u t m).2.2.2.2.1.toNat (x0.1,x0.2.1,x0.2.2.1,rg4 (stB u t m).1 (stB u t m).2.1 (stB u t m).2.2.1 (stB u t m).2.2.2.1 (stL c u t m).2.1,x0.2.2.2.2.1,2*(m.st+1)):=by
    show (stX c u t m).2.2.2.2.2.2.2.2.2=_;rw [e]
   rw [eh] at hy;by_cases h:(stB u t m).2.2.2.2.1.toNat=i
   ·subst h;have hl:=(zp2.1 hx0).1;rw [List.getElem?_set_self hl] at hy;have:=(Option.some.inj hy).symm;subst this;exact ⟨x0,hx0,rfl,.inr ⟨rfl,rfl⟩⟩
   rw [List.getElem?_set_ne h] at hy;exact ⟨y,hy,rfl,.inl rfl⟩
  have e:=(b0F (l:=stL c u t m) (st:=m.st+1) (cl:=(m.hd t).cl) (ln:=(m.hd t).ln) (at_:=(stB u t m).2.2.2.2.1) (h:=(stB u t m).2.2.2.2.2.1) (a2M g.call g.hl) h7 d0 d1 d2 d3 e0 e1 e2).2.2.2.2;have eh:(a0j c u mks t m).h=(stB u t m).2.2.2.2.2.1:=e;rw [eh] at hy;exact ⟨y,hy,rfl,.inl rfl⟩
 refine ⟨fun i x y hx hy hne => ?_⟩;obtain ⟨z,hz,ez,hto⟩:=hC i y hy;rw [ez];rcases hB i x hx with h | ⟨hI,hxe⟩
 ·obtain ⟨⟨a,b⟩,hle⟩:=hA i x z h hz hne;refine ⟨a,?_⟩;rcases hto with h | ⟨_,h⟩
  ·rw [h];exact b
  right;rw [h];omega
 subst hI;rw [hx0] at hz;have:=Option.some.inj hz;subst this;have h1:=(T.one x0 (List.mem_of_getElem? hx0)).1;obtain ⟨_,_,_,_,f,_⟩:=h1;refine ⟨by omega,?_⟩;rcases hto with h | ⟨_,h⟩
 ·left;rw [h];exact hx3
 right;rw [h];omega
end
theorem a8E {c:Code} {u:Tab} {mks:List Int} (hmk:b0d c mks) (hv:a1e c=true) (hu:a3E c u=true) : ∀ (sch:List Int) (m:Mc),MInv c u m->TInv c u m->MkI m->TMk m ->
  MInv c u (a1a c u mks sch m).1/\TInv c u (a1a c u mks sch m).1/\MkI (a1a c u mks sch m).1/\TMk (a1a c u mks sch m).1
 | [],m,a,b,d,e=>⟨a,b,d,e⟩
 | t::r,m,a,b,d,e=>by
   unfold a1a;cases ht:a3b u t m with
   | false=>exact ⟨a,b,d,e⟩
   | true =>
     have h0:0<=t:=by simp only [a3b,zp4,a0n] at ht;omega
     obtain ⟨h2,⟨g⟩⟩:=go1 hv hu a (t:=t.toNat) (by rw [Int.toNat_of_nonneg h0];exact ht);exact a8E hmk hv hu r _ (a2s mks hmk hv hu a ht) (a5h hmk hv hu a b ht) (b1y mks d b.st0) (b6I mks a b d e h2 g)
section
variable {m:Mc} (hI:MkI m) (hK:TMk m) (hl:m.ms.length=m.h.length) (hz:a6X m=false)
include hI hK hl hz
theorem b4P:a2t bef m.h (cN (a6f m))=true:=by
 rw [a5F];unfold cN;rw [List.pairwise_map];refine (List.Pairwise.imp_of_mem (R:=fun i j=>a3P m i<a3P m j) (fun {i j} hi hj h => ?_) (b0H hI hl));have hi':=((a2C hI hl).1 hi).1;have hj':=((a2C hI hl).1 hj).1;have ci:=zp1 hi';have cj:=zp1 hj';rw [a4D ci,a4D cj];have nz : ∀ i:Nat,i<m.h.length->a3P m i≠0:=fun i hi h0=>by
  have:=a5c.2 ⟨i,by rw [a2X (m:=m) (i:=i) (by omega),h0]⟩;rw [hz] at this;cases this
 have a:=hK.tm i _ _ (a2X (by omega)) ci (nz i hi');have b:=hK.tm j _ _ (a2X (by omega)) cj (nz j hj');unfold bef;rw [Bool.and_eq_false_iff,decide_eq_false_iff_not,decide_eq_false_iff_not];by_cases h0:m.h[j].to=0
 ·left;simpa using h0
 right;have:=b.2.resolve_left h0;omega
theorem c1L:isL m.h (cN (a6f m))=true:=by
 unfold isL;rw [zp4];constructor
 ·rw [a2o];refine ⟨fun x hx => ?_,a8D.2 (a7S hI hl)⟩;obtain ⟨i,hi,rfl⟩:=List.mem_map.1 hx;rw [a1Z];have:=((a2C hI hl).1 hi).1;omega
 rw [b1G];intro i x hx _;have hlt:=(zp2.1 hx).1;refine List.mem_map.2 ⟨i,(a2C hI hl).2 ⟨hlt,fun h0 => ?_⟩,rfl⟩;have:=a5c.2 ⟨i,h0⟩;rw [hz] at this;cases this
end
theorem b0L (s:Spec) : ∀ (w:List Int) (p:Int×List Int),(goF s w p).2=p.2++(goF s w (p.1,[])).2
 | [],p=>by simp [goF]
 | o::r,p=>by
   show (goF s r _).2=p.2++(goF s r _).2;rw [b0L s r,b0L s r (_,[]++_)];simp [List.append_assoc]
theorem a7W {s:Spec} {h:List Call} : ∀ (l:List Nat) (now z:Int),(∀ i∈l,i<h.length)->(∀ x∈h,x.ob=0)->(goF s (l.map (b2I h)) (now,[])).2=l.map (b6E h)->a1z [s] h (cN l) (now,z)=true
 | [],_,_,_,_,_=>rfl
 | i::r,now,z,hlt,hob,he=>by
   have hi:=hlt i (List.mem_cons_self ..);have ci:=zp1 hi;have hb:=hob _ (zp6 hi);have e1:b2I h i=h[i].op:=by unfold b2I;rw [a0H ci]
   have e2:b6E h i=h[i].sa:=by unfold b6E;rw [a0H ci]
   have he':(goF s (r.map (b2I h)) (nx s.2.2.1 now h[i].op,[]++[nx s.2.2.2 now h[i].op])).2=h[i].sa::r.map (b6E h):=by rw [<-e1,<-e2];exact he
   rw [b0L] at he';have h1:nx s.2.2.2 now h[i].op=h[i].sa:=(List.cons.inj he').1;have h2:(goF s (r.map (b2I h)) (nx s.2.2.1 now h[i].op,[])).2=r.map (b6E h):=(List.cons.inj he').2;have hsp:b6m [s] h[i]=s:=by unfold b6m;rw [hb];rfl
   have hnow:a3r h[i] (now,z)=now:=by unfold a3r;rw [hb];rfl
   show (okS [s] (Go.Am.hc h (i:Int)) (now,z)&&a1z [s] h (cN r) (doS [s] (Go.Am.hc h (i:Int)) (now,z)))=true;rw [a4D ci];have hd:doS [s] h[i] (now,z)=(nx s.2.2.1 now h[i].op,z):=by
    unfold doS;rw [hsp,hnow,hb];rfl
   have ho:okS [s] h[i] (now,z)=true:=by
    unfold okS;rw [hsp,hnow,decide_eq_true h1,Bool.or_true]
   rw [hd,ho,Bool.true_and];exact a7W r _ z (fun j hj=>hlt j (List.mem_cons_of_mem _ hj)) hob h2
section
variable {s:Spec} (hk:a0P s=true) {c:Code} {u:Tab} (hv:a1e c=true) (hu:a3E c u=true) (ho:s.2.1=(c.length:Int)) {m:Mc} (hT:TInv c u m) (hst:m.st<=12)
include hk hv hu ho hT hst
theorem b0M:a5V [s] m.h=0:=by
 have h1:a6Y [s]=true:=by
  unfold a6Y;rw [List.all_cons,hk];rfl
 have h2:b1z [s] m.h=true:=by
  unfold b1z;rw [a9N hv hu hT hst,Bool.true_and,List.all_eq_true];intro x hx;obtain ⟨_,b,d,_⟩:=hT.one x hx;unfold b5j;rw [b];show decide (x.op<s.2.1)=true;rw [ho];exact decide_eq_true d.2
 unfold a5V;rw [h1,h2];rfl
theorem b4Q (hI:MkI m) (hK:TMk m) (hl:m.ms.length=m.h.length) (hov:a0S u m=true) (hvis:b2B s u m=true) :
  a5U u m=true/\b8U [s] m.h (cN (a6f m))=true/\a7c s m.h=true:=by
 have hok:a5U u m=true:=by
  unfold b2B at hvis;rw [hov,cond_true] at hvis;cases h:a5U u m with
  | true=>rfl
  | false=>rw [h] at hvis;cases hvis
 have hz:a6X m=false:=by
  have:=hok;unfold a5U at this;rw [zp4] at this;simpa using this.2
 have halw:c1F s m.h (a6f m)=true:=by
  unfold b2B at hvis;rw [hov,hok] at hvis;exact hvis
 have hob : ∀ x∈m.h,x.ob=0:=fun x hx=>(hT.one x hx).2.1;have hall:a2a [s] m.h (cN (a6f m))=true :=
  a7W (a6f m) 0 0 (fun i hi=>((a2C hI hl).1 hi).1) hob (of_decide_eq_true halw)
 have his:b8U [s] m.h (cN (a6f m))=true:=by
  unfold b8U;rw [c1L hI hK hl hz,b4P hI hK hl hz,hall];rfl
 have hcall : ∀ c∈m.h,a1r c=true:=(a5b (a9N hv hu hT hst)).2;refine ⟨hok,his,?_⟩;have hm:=(b4K (S:=[s]) hcall (b1C hcall) (a6f m)).2 his;unfold a7c;rw [b0M hk hv hu ho hT hst];cases hq:a5X [s] m.h with
 | nil =>
   unfold a5X at hq;rw [hq] at hm;cases hm
 | cons _ _=>rfl
end
theorem c4J {b:Bool} (h:b=false):nk b=some ():=by rw [h];rfl
def b1K (c:Code) (ms:List Int) (i:Nat):Int:=bif decide (i<ms.length) then (ms.getD i 0).tmod (((c.getD i []).length:Nat):Int) else 0
def b6J (c:Code) (ms:List Int):List Int:=(List.range c.length).map (b1K c ms)
theorem a8F (c:Code) (ms:List Int):(b6J c ms).length=c.length:=by unfold b6J;rw [List.length_map,List.length_range]
section
variable {c:Code} (hc:a1q c) (hv:a1e c=true) {ms:List Int} (hm : ∀ n∈ms,0<=n/\n<256)
include hc hv hm
theorem b4R {i:Nat} (hi:i<c.length):c[i]?=some (c.getD i [])/\1<=(c.getD i []).length/\(c.getD i []).length<=8:=by
 have h:=zp1 hi;rw [a0H h];refine ⟨h,?_⟩;have:=a7P hv h;unfold a2x at this;rw [zp4,a0n] at this;omega
theorem c1M {i:Nat} (hi:i<c.length):0<=b1K c ms i/\b1K c ms i<=(((c.getD i []).length:Nat):Int)-1:=by
 have hr:=b4R hc hv hm hi;unfold b1K;by_cases h:i<ms.length
 ·rw [decide_eq_true h,cond_true];have hx:=zp1 h;have hn:=hm _ (zp6 h);rw [a0H hx];rw [Int.tmod_eq_emod_of_nonneg hn.1];have h1:=Int.emod_nonneg ms[i] (show (((c.getD i []).length:Nat):Int)≠0 by omega);have h2:=Int.emod_lt_of_pos ms[i] (show (0:Int)<(((c.getD i []).length:Nat):Int) by omega);omega
 rw [decide_eq_false h,cond_false];omega
theorem b8Y:b9t c (b6J c ms)=true:=by
 unfold b9t;rw [a8F,decide_eq_true rfl,Bool.true_and,Bool.not_eq_true',List.any_eq_false];intro i hi;rw [List.mem_range] at hi;have hb:=c1M hc hv hm hi;have e:(b6J c ms).getD i 0=b1K c ms i:=by
  refine a0H ?_;unfold b6J;rw [List.getElem?_map,List.getElem?_range hi];rfl
 unfold a9S;rw [e,(a0n _ _ _).2 hb];simp
end
theorem c1N {s:Spec} (hs:a0C s.2.2.1/\a0C s.2.2.2) (hk:a0P s=true) {c:Code} (hc:a1q c) {u:Tab} (hut:a0C u) (hv:a1e c=true) (hu:a3E c u=true) (ho:s.2.1=(c.length:Int)) {mks:List Int} (hlm:mks.length<Lg) (hmk:b9t c mks=true) :
  Z16 Ar.std s.1 s.2.1 (a0r s.2.2.1) (a0r s.2.2.2) (a0o c) (a0r u) (a0d mks)=some ((a1J c u mks 12 mc0).all (b2B s u),0):=by
 have hsp:a6W s c u=0:=by
  unfold a6W;rw [hv,hk,hu,decide_eq_true ho];rfl
 have hmk':b0d c mks:=by
  unfold b9t at hmk;rw [zp4,decide_eq_true_eq] at hmk;exact .inr hmk.1
 unfold Z16;refine bt (b7x s hs c hc u hut) ?_;rw [hsp];refine cnT rfl (bt (c1C hc hlm) ?_);rw [hmk];exact cnT rfl (bt (v:=(a0o c,a0r u)) rfl (bt (c1J hs hk hmk' hv hu ho) rfl))
abbrev Ent:=Mc×List H8×List Int
structure EntOk (c:Code) (u:Tab) (e:Ent):Prop where
 r:RHs u e.1 e.2.1
 i:MInv c u e.1
 t:TInv c u e.1
 k:MkI e.1
 st:e.1.st<=12
section
variable {c:Code} {u:Tab} {mks:List Int} (hmk:b0d c mks) (hv:a1e c=true) (hu:a3E c u=true)
include hmk hv hu
end
abbrev MS:=Mc×List Int
def a1j (c:Code) (u:Tab) (mks:List Int):Nat->Mc->List Int->List MS
 | 0,m,sch=>[(m,sch)]
 | k+1,m,sch=>bif a0S u m then [(m,sch)] else (a0y u m).flatMap fun t=>a1j c u mks k (a0j c u mks t.toNat m) (sch++[t])
theorem a7h (c:Code) (u:Tab) (mks:List Int) : ∀ (k:Nat) (m:Mc) (sch:List Int),(a1j c u mks k m sch).map (·.1)=a1J c u mks k m
 | 0,m,sch=>rfl
 | k+1,m,sch=>by
   unfold a1j a1J;cases a0S u m with
   | true=>rfl
   | false =>
     rw [cond_false,cond_false,List.map_flatMap];congr 1;funext t;exact a7h c u mks k _ _
section
variable {c:Code} {u:Tab} {mks:List Int} (hmk:b0d c mks) (hv:a1e c=true) (hu:a3E c u=true)
include hmk hv hu
end
def a3J (x:Call):List D:=[.int .i64 x.th,.int .i64 x.ob,.int .i64 x.op,.int .i64 x.sa,.int .i64 x.fr,.int .i64 x.to]
def a9U:Call:=(0,0,0,0,0,0)
def a3O:Nat->List Call->List D
 | 0,_=>[]
 | n+1,[]=>a3J a9U++a3O n []
 | n+1,x::r=>a3J x++a3O n r
theorem a7X (x:Call) (r:List Call):D.flat (a0b (x::r))=a3J x++D.flat (a0b r):=rfl
theorem b6K (h:List Call):(D.flat (a0b h)).length=6*h.length:=by
 induction h with
 | nil=>rfl
 | cons x r ih=>rw [a7X,List.length_append,ih,List.length_cons];show 6+_=_;omega
theorem b6L (n:Nat):a3O n []=List.replicate (6*n) (.int .i64 0):=by
 induction n with
 | zero=>rfl
 | succ n ih =>
   show a3J a9U++a3O n []=_;rw [ih,show 6*(n+1)=6+6*n by omega,<-List.replicate_append_replicate];rfl
theorem b4S : ∀ (n:Nat) (h:List Call),h.length<=n->D.flat (a0b h)++(List.replicate (6*n) (.int .i64 0)).drop (6*h.length)=a3O n h
 | n,[],_=>by rw [b6L];rfl
 | 0,x::r,h=>by simp at h
 | n+1,x::r,h=>by
   have ih:=b4S n r (by simpa using h);rw [a7X,List.append_assoc];show _=a3J x++a3O n r;rw [<-ih,List.drop_replicate,List.drop_replicate,List.length_cons];congr 2;congr 1;omega
theorem a8G : ∀ (n:Nat) (h:List Call),(a3O n h).length=6*n
 | 0,_=>rfl
 | n+1,[]=>by show (a3J a9U++a3O n []).length=_;rw [List.length_append,a8G n []];show 6+_=_;omega
 | n+1,x::r=>by show (a3J x++a3O n r).length=_;rw [List.length_append,a8G n r];show 6+_=_;omega
theorem a7i : ∀ (n:Nat) (h:List Call),a0Y (List.replicate (6*n) (.int .i64)) (a3O n h)=true
 | 0,_=>rfl
 | n+1,[]=>by
   rw [show 6*(n+1)=6*n+1+1+1+1+1+1 by omega];simp only [List.replicate_succ];show a0Y _ (.int .i64 _ :: .int .i64 _ :: .int .i64 _ :: .int .i64 _ :: .int .i64 _ :: .int .i64 _::a3O n [])=true;simp only [a0Y,CK.fits,decide_true,Bool.true_and,a7i n []]
 | n+1,x::r=>by
   rw [show 6*(n+1)=6*n+1+1+1+1+1+1 by omega];simp only [List.replicate_succ];show a0Y _ (.int .i64 _ :: .int .i64 _ :: .int .i64 _ :: .int .i64 _ :: .int .i64 _ :: .int .i64 _::a3O n r)=true;simp only [a0Y,CK.fits,decide_true,Bool.true_and,a7i n r]
theorem a7j : ∀ (n:Nat) (h:List Call),(a3O n h).all D.isOne=true
 | 0,_=>rfl
 | n+1,[]=>by show (a3J a9U++a3O n []).all D.isOne=true;rw [List.all_append,a7j n []];rfl
 | n+1,x::r=>by show (a3J x++a3O n r).all D.isOne=true;rw [List.all_append,a7j n r];rfl
theorem a5H {x y:Call} {a b:List D} (h:a3J x++a=a3J y++b):x=y/\a=b:=by
 obtain ⟨x1,x2,x3,x4,x5,x6⟩:=x;obtain ⟨y1,y2,y3,y4,y5,y6⟩:=y;simp only [a3J,List.cons_append,List.nil_append,List.cons.injEq,D.int.injEq,true_and] at h;obtain ⟨h1,h2,h3,h4,h5,h6,h7⟩:=h;refine ⟨?_,h7⟩;simp only [Prod.mk.injEq];exact ⟨h1,h2,h3,h4,h5,h6⟩
theorem b1L : ∀ (n:Nat) (h h':List Call),h.length<=n->h'.length<=n->(∀ x∈h,x.fr≠0)->(∀ x∈h',x.fr≠0)->a3O n h=a3O n h'->h=h'
 | _,[],[],_,_,_,_,_=>rfl
 | 0,x::r,_,h,_,_,_,_=>by simp at h
 | 0,[],x::r,_,h,_,_,_=>by simp at h
 | n+1,[],y::r,_,_,_,h2,e=>by
   have:=(a5H (x:=a9U) (y:=y) (a:=a3O n []) (b:=a3O n r) e).1;subst this;exact absurd rfl (h2 a9U (by simp))
 | n+1,x::r,[],_,_,h1,_,e=>by
   have:=(a5H (x:=x) (y:=a9U) (a:=a3O n r) (b:=a3O n []) e).1;subst this;exact absurd rfl (h1 a9U (by simp))
 | n+1,x::r,y::q,l1,l2,h1,h2,e=>by
   obtain ⟨e1,e2⟩:=a5H (x:=x) (y:=y) (a:=a3O n r) (b:=a3O n q) e;subst e1;rw [b1L n r q (by simpa using l1) (by simpa using l2) (fun z hz=>h1 z (by simp [hz])) (fun z hz=>h2 z (by simp [hz])) e2]
def KD (h:List Call):D := .agg (a3O 6 h)
def H6 (h:List Call):Prop:=h.length<=6 /\ ∀ x∈h,x.fr≠0
def a4y (s:Spec) (mp:List (D×D)):Prop := ∀ (h:List Call) (v:D),H6 h->Am.mget mp (KD h)=some v->v = .bool true/\a7c s h=true
theorem a4y.nil (s:Spec):a4y s []:=fun h v _ hv=>by simp [Am.mget] at hv
theorem a4y.put {s:Spec} {mp:List (D×D)} (hg:a4y s mp) {h:List Call} (hh:H6 h) (hl:a7c s h=true):a4y s (Am.mput mp (KD h) (.bool true)):=by
 intro h' v hh' hv;rw [a9k] at hv;split at hv
 ·rename_i e;have e':a3O 6 h=a3O 6 h':=by
   unfold KD at e;exact D.agg.inj e
  have:=b1L 6 h h' hh.1 hh'.1 hh.2 hh'.2 e';subst this;exact ⟨(Option.some.inj hv).symm,hl⟩
 exact hg h' v hh' hv
theorem c1O {h:List Call} (hl:h.length<=6):ga Ar.std (Ar.std.spl (Ar.std.rep (Int.ofNat 36) (.int .i64 0)) (Ar.std.zmul 0 (Int.ofNat 6)) (Ar.std.flat (a0b h))) (Ar.std.zadd 0 (Int.ofNat 0)) (Int.ofNat 36)=some (a3O 6 h):=by
 have e:Ar.std.spl (Ar.std.rep (Int.ofNat 36) (.int .i64 0)) (Ar.std.zmul 0 (Int.ofNat 6)) (Ar.std.flat (a0b h))=a3O 6 h:=by
  rw [<-b4S 6 h hl];show (List.replicate 36 (D.int .i64 0)).take 0++D.flat (a0b h)++(List.replicate 36 (D.int .i64 0)).drop (0+(D.flat (a0b h)).length)=_;rw [List.take_zero,List.nil_append,Nat.zero_add,b6K]
 rw [e];have hlen:=a8G 6 h;have e1:Ar.std.sub (a3O 6 h) (Ar.std.zadd 0 (Int.ofNat 0)) (Ar.std.zadd (Ar.std.zadd 0 (Int.ofNat 0)) (Int.ofNat 36))=a3O 6 h:=by
  show ((a3O 6 h).drop 0).take 36=_;rw [List.drop_zero,List.take_of_length_le (by omega)]
 have e2:Ar.std.zle (Ar.std.zadd (Ar.std.zadd 0 (Int.ofNat 0)) (Int.ofNat 36)) (Ar.std.len (a3O 6 h))=true:=by
  show decide ((36:Int)<=((a3O 6 h).length:Int))=true;rw [hlen];rfl
 unfold ga;rw [e2,e1];show (bif (a3O 6 h).all D.isOne then _ else _)=_
 rw [a7j];rfl
theorem b6M (h:List Call):Ar.std.conf [.int .i64,.int .i64,.int .i64,.int .i64,.int .i64,.int .i64,.int .i64,.int .i64,.int .i64,.int .i64,.int .i64,.int .i64,.int .i64,.int .i64,.int .i64,.int .i64,.int .i64,.int .i64,.int .i64,.int .i64,.int .i64,.int .i64,.int .i64,.int .i64,.int .i64,.int .i64,.int .i64,.int .i64,.int .i64,.int .i64,.int .i64,.int .i64,.int .i64,.int .i64,.int .i64,.int .i64] (a3O 6 h)=true :=
 a7i 6 h
section
variable {s:Spec} (hs:a0C s.2.2.1/\a0C s.2.2.2)
include hs
theorem b7D {h:List Call} (hh:H6 h) {mp:List (D×D)} (hg:a4y s mp) (sch out:List D) (x1 x2:List D) (x3 x4 x5 x6 x7 x8 x9 x10 x11 x12 x13 x14 x15 x16 x17 x18 x19 x20:Int) (x22:List D) :
  ∃ mp',a4y s mp'/\Z37 Ar.std x1 x2 x3 x4 x5 x6 x7 x8 x9 x10 x11 x12 x13 x14 x15 x16 x17 x18 x19 x20 (a0b h) x22 sch s.1 s.2.1 (a0r s.2.2.1) (a0r s.2.2.2) mp out
    = some (bif a7c s h then (true,mp',out) else (false,mp',sch)):=by
 have hll:h.length<Lg:=Nat.lt_of_le_of_lt hh.1 (by decide);have c1:ck (Ar.std.zle (Ar.std.len (a0b h)) (Int.ofNat 6))=some ():=a4I (by
  rw [a0p];show decide ((h.length:Int)<=6)=true;have:=hh.1;exact decide_eq_true (by omega))
 have c2:ck (Ar.std.zle (Ar.std.zmul (Ar.std.zadd 0 (Int.ofNat 6)) (Int.ofNat 6)) (Ar.std.len (Ar.std.rep (Int.ofNat 36) (.int .i64 0))))=some ():=a4I (by
  show decide ((36:Int)<=(((List.replicate 36 (D.int .i64 0)).length:Nat):Int))=true;rw [List.length_replicate];rfl)
 have hga:=c1O hh.1;have hck:=a4I (b6M h);have hmg:Ar.std.mget mp (.agg (a3O 6 h))=Am.mget mp (KD h):=rfl;cases hm:Am.mget mp (KD h) with
 | some v =>
   obtain ⟨rfl,hlin⟩:=hg h v hh hm;refine ⟨mp,hg,?_⟩;rw [hlin,cond_true];unfold Z37;refine bt c1 (bt c2 (bt (v:=false) (bt hga (bt hck (bt (v:=some true) ?_ rfl))) ?_))
   ·unfold lk;rw [hmg,hm];rfl
   unfold jn;exact cnF rfl rfl
 | none =>
   have hlk:lk Ar.std cB mp (.agg (a3O 6 h))=some none:=by
    unfold lk;rw [hmg,hm];rfl
   cases hlin:a7c s h with
   | true =>
     refine ⟨Am.mput mp (KD h) (.bool true),hg.put hh hlin,?_⟩;unfold Z37;refine bt c1 (bt c2 (bt (v:=true) (bt hga (bt hck (bt hlk rfl))) ?_));unfold jn;refine cnT rfl (bt (b7B hs h hll) ?_);rw [hlin];exact cnT rfl (bt hga (bt hck rfl))
   | false =>
     refine ⟨mp,hg,?_⟩;unfold Z37;refine bt c1 (bt c2 (bt (v:=true) (bt hga (bt hck (bt hlk rfl))) ?_));unfold jn;refine cnT rfl (bt (b7B hs h hll) ?_);rw [hlin];exact cnF rfl rfl
end
section
variable {m:Mc} (hI:MkI m) (hl:m.ms.length=m.h.length) (hs:m.st<=100) (hs0:0<=m.st) (hh:m.h.length<=100)
include hI hl hs hs0 hh
end
theorem b4T {s:Spec} {c:Code} {u:Tab} (h:a6W s c u=0):a1e c=true/\a0P s=true/\s.2.1=(c.length:Int)/\a3E c u=true:=by
 unfold a6W at h;cases hv:a1e c with
 | false=>rw [hv] at h;simp at h
 | true =>
   rw [hv] at h;cases hs:a0P s&&decide (s.2.1=(c.length:Int)) with
   | false=>rw [hs] at h;simp at h
   | true =>
     rw [hs] at h;rw [zp4,decide_eq_true_eq] at hs;cases hu:a3E c u with
     | false=>rw [hu] at h;simp at h
     | true=>exact ⟨rfl,hs.1,hs.2,rfl⟩
section
variable {s:Spec} (hs:a0C s.2.2.1/\a0C s.2.2.2) {c:Code} (hc:a1q c) {u:Tab} (hut:a0C u) {mks:List Int} (hlm:mks.length<Lg)
include hs hc hut hlm
end
theorem c1P {u:Tab} {m:Mc} (h2:u.length<=2) (x1 x23:List D) :
  Z58 Ar.std x1 (a0r u) m.a.cl m.a.ln m.a.r0 m.a.r1 m.a.r2 m.a.r3 m.a.at_ m.b.cl m.b.ln m.b.r0 m.b.r1 m.b.r2 m.b.r3 m.b.at_ m.c0 m.c1 m.c2 m.st (a0b m.h) (a0d m.ms) x23=some (a0S u m):=by
 unfold Z58;refine bt (b4A x1 m h2) ?_;unfold a0S;cases a0y u m with
 | nil=>rfl
 | cons t r=>simp <;> omega
abbrev c1Q:=List D->List D->Int->Int->Int->Int->Int->Int->Int->Int->Int->Int->Int->Int->Int->Int->Int->Int->Int->Int->List D->List D->Int->List D->List D->Option Bool
section
variable {c:Code} {u:Tab} {mks:List Int} (hmk:b0d c mks) (hv:a1e c=true) (hu:a3E c u=true)
def b8Z (c:Code) (u:Tab) (mks:List Int) (k:Nat) (slf:c1Q):Prop :=
 ∀ (m:Mc) (sch:List Int),MInv c u m->m.st+k=12->(sch.length:Int)<=m.st ->
   slf (a0o c) (a0r u) m.a.cl m.a.ln m.a.r0 m.a.r1 m.a.r2 m.a.r3 m.a.at_ m.b.cl m.b.ln m.b.r0 m.b.r1 m.b.r2 m.b.r3 m.b.at_ m.c0 m.c1 m.c2 m.st (a0b m.h) (a0d m.ms) 12 (a0d mks) (a0d sch)=some ((a1J c u mks k m).all (a0S u))
include hmk hv hu
theorem b4U (k:Nat) (slf:c1Q) (hself : ∀ k',k=k'+1->b8Z c u mks k' slf):b8Z c u mks k (b3o Ar.std slf):=by
 intro m sch hi hst hsch;have h2:=b8C mks hmk hv hu;have hhs:=hi.st;have hms:=hi.ms;unfold b3o;refine bt (a3H (a0o c) m h2) ?_;refine bt (v:=a0S u m||decide (m.st=12)) ?_ ?_
 ·unfold a0S;cases hl:a0y u m with
  | nil=>rfl
  | cons t r=>exact cnF (by simp <;> omega) rfl
 cases hb:(a0S u m||decide (m.st=12)) with
 | true =>
   have he:a1J c u mks k m=[m]:=by
    cases k with
    | zero=>rfl
    | succ k =>
      unfold a1J;have:a0S u m=true:=by
       rw [Bool.or_eq_true,decide_eq_true_eq] at hb;rcases hb with h | h
       ·exact h
       omega
      rw [this,cond_true]
   rw [he];refine cnT rfl (bt (c1P h2 _ _) ?_);simp
 | false =>
   rw [Bool.or_eq_false_iff,decide_eq_false_iff_not] at hb;obtain ⟨k',rfl⟩ : ∃ k',k=k'+1:=⟨k-1,by have:=hb.2;omega⟩;have hself:=hself k' rfl;have hll:=a3t h2 m;refine cnF rfl ?_;have he:a1J c u mks (k'+1) m=(a0y u m).flatMap fun t=>a1J c u mks k' (a0j c u mks t.toNat m):=by
    show (bif a0S u m then [m] else _)=_
    rw [hb.1,cond_false]
   rw [he,List.all_flatMap];refine bt (a4p (a0y u m) (fun (_:Unit) (i:Nat)=>(i:Int)) (fun _ t=>bif (a1J c u mks k' (a0j c u mks t.toNat m)).all (a0S u) then .inl () else .inr (.inr (a0o c,a0r u,(a0j c u mks t.toNat m).a.cl,(a0j c u mks t.toNat m).a.ln,(a0j c u mks t.toNat m).a.r0,(a0j c u mks t.toNat m).a.r1,(a0j c u mks t.toNat m).a.r2,(a0j c u mks t.toNat m).a.r3,(a0j c u mks t.toNat m).a.at_,(a0j c u mks t.toNat m).b.cl,(a0j c u mks t.toNat m).b.ln,(a0j c u mks t.toNat m).b.r0,(a0j c u mks t.toNat m).b.r1,(a0j c u mks t.toNat m).b.r2,(a0j c u mks t.toNat m).b.r3,(a0j c u mks t.toNat m).b.at_,(a0j c u mks t.toNat m).c0,(a0j c u mks t.toNat m).c1,(a0j c u mks t.toNat m).c2,(a0j c u mks t.toNat m).st,a0b (a0j c u mks t.toNat m).h,a0d (a0j c u mks t.toNat m).ms))) (fun _ => .inl ()) (fun i t _ hn hlt => ?_) (fun _ => ?_) ()) ?_
   ·have ht:=a2N (List.mem_of_getElem? hn);have hn1:=a2s mks hmk hv hu hi ht;have hsl:sl Ar.std (a0d sch) 0 (Ar.std.len (a0d sch))=some (a0d sch):=by
     rw [a0p,a4L (Nat.le_refl _),List.take_length]
    unfold b1b;refine cnT (by simp;omega) (bt (a0t hn) (bt (v:=(a0o c,a0r u,m.a.cl,m.a.ln,m.a.r0,m.a.r1,m.a.r2,m.a.r3,m.a.at_,m.b.cl,m.b.ln,m.b.r0,m.b.r1,m.b.r2,m.b.r3,m.b.at_,m.c0,m.c1,m.c2,m.st,a0b m.h,a0d m.ms)) ?_ (bt (a9H mks hmk hv hu hi (by omega) ht) (bt hsl (bt (v:=()) (by simp [ck]) (bt (a1y (c:=cI .i64) rfl (by omega)) (bt (hself (a0j c u mks t.toNat m) (sch++[t]) hn1 (by show m.st+1+(k':Int)=12;omega) (by rw [List.length_append];show ((sch.length+1:Nat):Int)<=m.st+1;omega)) ?_)))))))
    ·unfold Z83;exact bt (a7f _ (by simp;omega)) (bt (v:=()) (by rw [a3q];rfl) (bt (a7Q (c:=[]) ⟨by decide,fun r h=>by cases h⟩ (u:=[]) ⟨by decide,fun r h=>by cases h⟩ (sch:=[]) (by decide) _ (by simp;omega)) (bt (v:=()) (by rw [a5g];rfl) rfl)))
    cases (a1J c u mks k' (a0j c u mks t.toNat m)).all (a0S u) with
    | true =>
      refine cnT rfl ?_;simp only [a0g,a0i,a0G hlt (by omega)];rfl
    | false=>exact cnF rfl rfl
   ·unfold b1b;exact cnF (by simp) rfl
   refine a7g (fun t:Int=>(a1J c u mks k' (a0j c u mks t.toNat m)).all (a0S u)) _ _ ?_ _;intro a;rfl
theorem b1M : ∀ (k j:Nat),k<j->b8Z c u mks k (b3p Ar.std j)
 | k,0,h=>by omega
 | k,j+1,h=>b4U hmk hv hu k (b3p Ar.std j) fun k' hk'=>b1M k' j (by omega)
theorem b9a:c2K Ar.std (a0o c) (a0r u) 0 0 0 0 0 0 0 0 0 0 0 0 0 0 0 0 0 0 12 (a0d mks) [] [] []=some ((a1J c u mks 12 mc0).all (a0S u)) :=
 b4U hmk hv hu 12 (c3c Ar.std) (fun k' hk'=>b1M hmk hv hu k' fuel (by unfold fuel;omega)) mc0 [] (a7v c u) (by simp [mc0]) (by simp [mc0])
end
def c4K (c:Code) (u:Tab):Bool×Int:=bif decide (a3o c u=0) then ((a1J c u [] 12 mc0).all (a0S u),0) else (false,a3o c u)
section
variable {c:Code} (hc:a1q c) {u:Tab} (hut:a0C u)
include hc hut
theorem c1R:Z17 Ar.std (a0o c) (a0r u)=some (c4K c u):=by
 unfold Z17 c4K;refine bt (b1r c hc u hut) ?_;by_cases he:a3o c u=0
 ·obtain ⟨hv,hu⟩:=b1w he;rw [decide_eq_true he,cond_true];refine cnT (by simp [he]) (bt (v:=(a0o c,a0r u)) rfl (bt (b9a (mks:=[]) (.inl rfl) hv hu) rfl))
 rw [decide_eq_false he,cond_false];exact cnF (by simp [he]) rfl
end
abbrev c1S:=List D->List D->Int->Int->Int->Int->Int->Int->Int->Int->Int->Int->Int->Int->Int->Int->Int->Int->Int->Int->List D->List D->Int->List D->List D->Int->Int->List D->List D->List (D×D)->List D->Option (Bool×List (D×D)×List D)
def a1i (s:Spec) (L:List MS):Option MS:=L.find? fun e => !a7c s e.1.h
theorem a4s (s:Spec) (a b:List MS):a1i s (a++b)=(a1i s a).or (a1i s b):=List.find?_append
def c6k (o:Option MS) (mp:List (D×D)) (out:List D):Bool×List (D×D)×List D :=
 match o with
 | none=>(true,mp,out)
 | some e=>(false,mp,a0d e.2)
def c6l (o:Option MS) (mp:List (D×D)) (out:List D):Bool×List D×List (D×D) :=
 match o with
 | none=>(true,out,mp)
 | some e=>(false,a0d e.2,mp)
theorem c2Y {c:Code} {u:Tab} (hv:a1e c=true) (hu:a3E c u=true) {m:Mc} (hT:TInv c u m):H6 m.h:=by
 refine ⟨?_,fun x hx=>by have:=(hT.one x hx).2.2.2.2.1.1;omega⟩;rw [b4y m.h (fun x hx=>(hT.one x hx).1)];have a:=hT.ops 0 (by decide);have b:=hT.ops 1 (by decide);have a':(opsOf m.h 0).length<=3:=by
  have:opsOf m.h 0=_:=a;rw [this,List.length_take];have:=b6l hv hu 0;omega
 have b':(opsOf m.h 1).length<=3:=by
  have:opsOf m.h 1=_:=b;rw [this,List.length_take];have:=b6l hv hu 1;omega
 omega
abbrev b2C (c:Code) (u:Tab) (m:Mc):=(a0o c,a0r u,m.a.cl,m.a.ln,m.a.r0,m.a.r1,m.a.r2,m.a.r3,m.a.at_,m.b.cl,m.b.ln,m.b.r0,m.b.r1,m.b.r2,m.b.r3,m.b.at_,m.c0,m.c1,m.c2,m.st,a0b m.h,a0d m.ms)
section
variable {s:Spec} (hs:a0C s.2.2.1/\a0C s.2.2.2) {c:Code} {u:Tab} {mks:List Int} (hmk:b0d c mks) (hv:a1e c=true) (hu:a3E c u=true) {steps:Int} (hs0:steps<=12)
def b9b (s:Spec) (c:Code) (u:Tab) (mks:List Int) (steps:Int) (k:Nat) (slf:c1S):Prop :=
 ∀ (m:Mc) (sch:List Int) (mp:List (D×D)) (out:List D),MInv c u m->TInv c u m->m.st+k=steps->(sch.length:Int)<=m.st->a4y s mp ->
   ∃ mp',a4y s mp'/\slf (a0o c) (a0r u) m.a.cl m.a.ln m.a.r0 m.a.r1 m.a.r2 m.a.r3 m.a.at_ m.b.cl m.b.ln m.b.r0 m.b.r1 m.b.r2 m.b.r3 m.b.at_ m.c0 m.c1 m.c2 m.st (a0b m.h) (a0d m.ms) steps (a0d mks) (a0d sch) s.1 s.2.1 (a0r s.2.2.1) (a0r s.2.2.2) mp out=some (c6k (a1i s (a1j c u mks k m sch)) mp' out)
include hs hmk hv hu hs0
theorem b9c (k:Nat) (slf:c1S) (hself : ∀ k',k=k'+1->b9b s c u mks steps k' slf):b9b s c u mks steps k (b0j Ar.std slf):=by
 intro m sch mp out hi hT hst hsch hg;have h2:=b8C mks hmk hv hu;have hhs:=hi.st;have hms:=hi.ms;have h6:=c2Y hv hu hT;have ee:(bif Ar.std.zeq (Ar.std.len (a0d (a0y u m))) 0 then some true else some (Ar.std.zeq m.st steps):Option Bool)=some (a0S u m||decide (m.st=steps)):=by
  unfold a0S;cases hl:a0y u m with
  | nil=>rfl
  | cons t r=>exact cnF (by simp <;> omega) rfl
 cases hb:(a0S u m||decide (m.st=steps)) with
 | true =>
   have he:a1j c u mks k m sch=[(m,sch)]:=by
    cases k with
    | zero=>rfl
    | succ k =>
      unfold a1j;have:a0S u m=true:=by
       rw [Bool.or_eq_true,decide_eq_true_eq] at hb;rcases hb with h | h
       ·exact h
       omega
      rw [this,cond_true]
   obtain ⟨mp',hg',e37⟩:=b7D hs h6 hg (a0d sch) out (a0o c) (a0r u) m.a.cl m.a.ln m.a.r0 m.a.r1 m.a.r2 m.a.r3 m.a.at_ m.b.cl m.b.ln m.b.r0 m.b.r1 m.b.r2 m.b.r3 m.b.at_ m.c0 m.c1 m.c2 m.st (a0d m.ms);refine ⟨mp',hg',?_⟩;unfold b0j;refine bt (a3H (a0o c) m h2) (bt ee ?_);rw [hb];refine cnT rfl (bt e37 ?_);rw [he];unfold a1i;simp only [List.find?_cons,List.find?_nil];cases a7c s m.h <;> rfl
 | false =>
   have hb':=hb;rw [Bool.or_eq_false_iff,decide_eq_false_iff_not] at hb';obtain ⟨k',rfl⟩ : ∃ k',k=k'+1:=⟨k-1,by have:=hb'.2;omega⟩;have hself:=hself k' rfl;have hll:=a3t h2 m;have he:a1j c u mks (k'+1) m sch=(a0y u m).flatMap fun t=>a1j c u mks k' (a0j c u mks t.toNat m) (sch++[t]):=by
    show (bif a0S u m then [(m,sch)] else _)=_
    rw [hb'.1,cond_false]
   have key:=a4d (step:=a7A Ar.std (a0o c) (a0r u) m.a.cl m.a.ln m.a.r0 m.a.r1 m.a.r2 m.a.r3 m.a.at_ m.b.cl m.b.ln m.b.r0 m.b.r1 m.b.r2 m.b.r3 m.b.at_ m.c0 m.c1 m.c2 m.st (a0b m.h) (a0d m.ms) steps (a0d mks) (a0d sch) s.1 s.2.1 (a0r s.2.2.1) (a0r s.2.2.2) (a0d (a0y u m)) slf) (a0y u m).length
    (fun (mp:List (D×D)) (i:Nat)=>((i:Int),mp,out)) (fun i mp=>a4y s mp/\a1i s (((a0y u m).take i).flatMap fun t=>a1j c u mks k' (a0j c u mks t.toNat m) (sch++[t]))=none)
    (fun i x => ∃ mp' e w,a4y s mp'/\a1i s (((a0y u m).take (i+1)).flatMap fun t=>a1j c u mks k' (a0j c u mks t.toNat m) (sch++[t]))=some e/\x = .inr (mp',a0d e.2,w))
    (fun mp => .inl (mp,out))
    (fun i mp hi' ⟨hg,hn0⟩=>by
     have hn:=zp1 hi';generalize (a0y u m)[i]=t at hn;have ht:=a2N (List.mem_of_getElem? hn);have hn1:=a2s mks hmk hv hu hi ht;have hsl:sl Ar.std (a0d sch) 0 (Ar.std.len (a0d sch))=some (a0d sch):=by
      rw [a0p,a4L (Nat.le_refl _),List.take_length]
     have e83:Z83 Ar.std (a0o c) (a0r u) m.a.cl m.a.ln m.a.r0 m.a.r1 m.a.r2 m.a.r3 m.a.at_ m.b.cl m.b.ln m.b.r0 m.b.r1 m.b.r2 m.b.r3 m.b.at_ m.c0 m.c1 m.c2 m.st (a0b m.h) (a0d m.ms)=some (b2C c u m):=by
      unfold Z83;exact bt (a7f _ (by simp;omega)) (bt (v:=()) (by rw [a3q];rfl) (bt (a7Q (c:=[]) ⟨by decide,fun r h=>by cases h⟩ (u:=[]) ⟨by decide,fun r h=>by cases h⟩ (sch:=[]) (by decide) _ (by simp;omega)) (bt (v:=()) (by rw [a5g];rfl) rfl)))
     obtain ⟨mp',hg',e⟩:=hself (a0j c u mks t.toNat m) (sch++[t]) mp out hn1 (a5h hmk hv hu hi hT ht) (by show m.st+1+(k':Int)=steps;omega) (by rw [List.length_append];show ((sch.length+1:Nat):Int)<=m.st+1;omega) hg;have hfm:a1i s (((a0y u m).take (i+1)).flatMap fun t=>a1j c u mks k' (a0j c u mks t.toNat m) (sch++[t]))=a1i s (a1j c u mks k' (a0j c u mks t.toNat m) (sch++[t])):=by
      rw [a0J hn,List.flatMap_append,a4s,hn0,Option.none_or];simp only [List.flatMap_cons,List.flatMap_nil,List.append_nil]
     cases hf:a1i s (a1j c u mks k' (a0j c u mks t.toNat m) (sch++[t])) with
     | none =>
       rw [hf] at e;refine .inl ⟨mp',⟨hg',by rw [hfm,hf]⟩,?_⟩;unfold a7A;refine cnT (by simp;omega) (bt (a0t hn) (bt e83 (bt (a9H mks hmk hv hu hi (by omega) ht) (bt hsl (bt (v:=()) (by simp [ck]) (bt (a1y (c:=cI .i64) rfl (by omega)) (bt e ?_)))))));refine cnT rfl ?_;simp only [a0g,a0i,a0G hi' (by omega)]
     | some q =>
       rw [hf] at e;refine .inr ⟨.inr (mp',a0d q.2,b2C c u (a0j c u mks t.toNat m)),⟨mp',q,b2C c u (a0j c u mks t.toNat m),hg',by rw [hfm,hf],rfl⟩,?_⟩;unfold a7A;refine cnT (by simp;omega) (bt (a0t hn) (bt e83 (bt (a9H mks hmk hv hu hi (by omega) ht) (bt hsl (bt (v:=()) (by simp [ck]) (bt (a1y (c:=cI .i64) rfl (by omega)) (bt e ?_)))))));exact cnF rfl rfl)
    (fun mp _=>by unfold a7A;exact cnF (by simp) rfl) mp ⟨hg,rfl⟩
   rcases key with ⟨mp',⟨hg',hf⟩,e⟩ | ⟨i,x,hi',⟨mp',q,w,hg',hf,rfl⟩,e⟩
   ·rw [List.take_length] at hf;refine ⟨mp',hg',?_⟩;unfold b0j;refine bt (a3H (a0o c) m h2) (bt ee ?_);rw [hb];refine cnF rfl (bt e ?_);rw [he,hf];rfl
   have hw:a1i s ((a0y u m).flatMap fun t=>a1j c u mks k' (a0j c u mks t.toNat m) (sch++[t]))=some q:=by
    rw [<-List.take_append_drop (i+1) (a0y u m),List.flatMap_append,a4s,hf];rfl
   refine ⟨mp',hg',?_⟩;unfold b0j;refine bt (a3H (a0o c) m h2) (bt ee ?_);rw [hb];refine cnF rfl (bt e ?_);rw [he,hw];rfl
theorem b1N : ∀ (k j:Nat),k<j->b9b s c u mks steps k (b3q Ar.std j)
 | k,0,h=>by omega
 | k,j+1,h=>b9c hs hmk hv hu hs0 k (b3q Ar.std j) fun k' hk'=>b1N k' j (by omega)
theorem b9d (k:Nat) (m:Mc) (sch:List Int) (mp:List (D×D)) (out:List D) (hi:MInv c u m) (hT:TInv c u m) (hst:m.st+k=steps) (hsch:(sch.length:Int)<=m.st) (hg:a4y s mp) :
  ∃ mp',a4y s mp'/\b7O Ar.std (a0o c) (a0r u) m.a.cl m.a.ln m.a.r0 m.a.r1 m.a.r2 m.a.r3 m.a.at_ m.b.cl m.b.ln m.b.r0 m.b.r1 m.b.r2 m.b.r3 m.b.at_ m.c0 m.c1 m.c2 m.st steps (a0d mks) (a0d sch) s.1 s.2.1 (a0r s.2.2.1) (a0r s.2.2.2) out mp (a0b m.h) (a0d m.ms)=some (c6l (a1i s (a1j c u mks k m sch)) mp' out):=by
 have h2:=b8C mks hmk hv hu;have hhs:=hi.st;have hms:=hi.ms;have h6:=c2Y hv hu hT;have ee:(bif Ar.std.zeq (Ar.std.len (a0d (a0y u m))) 0 then some true else some (Ar.std.zeq m.st steps):Option Bool)=some (a0S u m||decide (m.st=steps)):=by
  unfold a0S;cases hl:a0y u m with
  | nil=>rfl
  | cons t r=>exact cnF (by simp <;> omega) rfl
 cases hb:(a0S u m||decide (m.st=steps)) with
 | true =>
   have he:a1j c u mks k m sch=[(m,sch)]:=by
    cases k with
    | zero=>rfl
    | succ k =>
      unfold a1j;have:a0S u m=true:=by
       rw [Bool.or_eq_true,decide_eq_true_eq] at hb;rcases hb with h | h
       ·exact h
       omega
      rw [this,cond_true]
   obtain ⟨mp',hg',e37⟩:=b7D hs h6 hg (a0d sch) out (a0o c) (a0r u) m.a.cl m.a.ln m.a.r0 m.a.r1 m.a.r2 m.a.r3 m.a.at_ m.b.cl m.b.ln m.b.r0 m.b.r1 m.b.r2 m.b.r3 m.b.at_ m.c0 m.c1 m.c2 m.st (a0d m.ms);refine ⟨mp',hg',?_⟩;unfold b7O;refine bt (a3H (a0o c) m h2) (bt ee ?_);rw [hb];refine cnT rfl (bt e37 ?_);rw [he];unfold a1i;simp only [List.find?_cons,List.find?_nil];cases a7c s m.h <;> rfl
 | false =>
   have hb':=hb;rw [Bool.or_eq_false_iff,decide_eq_false_iff_not] at hb';obtain ⟨k',rfl⟩ : ∃ k',k=k'+1:=⟨k-1,by have:=hb'.2;omega⟩;have hself:=b1N hs hmk hv hu hs0 k' fuel (by unfold fuel;omega);have hll:=a3t h2 m;have he:a1j c u mks (k'+1) m sch=(a0y u m).flatMap fun t=>a1j c u mks k' (a0j c u mks t.toNat m) (sch++[t]):=by
    show (bif a0S u m then [(m,sch)] else _)=_
    rw [hb'.1,cond_false]
   have key:=a4d (step:=a7B Ar.std (a0o c) (a0r u) m.a.cl m.a.ln m.a.r0 m.a.r1 m.a.r2 m.a.r3 m.a.at_ m.b.cl m.b.ln m.b.r0 m.b.r1 m.b.r2 m.b.r3 m.b.at_ m.c0 m.c1 m.c2 m.st steps (a0d mks) (a0d sch) s.1 s.2.1 (a0r s.2.2.1) (a0r s.2.2.2) (a0b m.h) (a0d m.ms) (a0d (a0y u m))) (a0y u m).length
    (fun (mp:List (D×D)) (i:Nat)=>((i:Int),out,mp)) (fun i mp=>a4y s mp/\a1i s (((a0y u m).take i).flatMap fun t=>a1j c u mks k' (a0j c u mks t.toNat m) (sch++[t]))=none)
    (fun i x => ∃ mp' e w,a4y s mp'/\a1i s (((a0y u m).take (i+1)).flatMap fun t=>a1j c u mks k' (a0j c u mks t.toNat m) (sch++[t]))=some e/\x = .inr (a0d e.2,mp',w))
    (fun mp => .inl (out,mp))
    (fun i mp hi' ⟨hg,hn0⟩=>by
     have hn:=zp1 hi';generalize (a0y u m)[i]=t at hn;have ht:=a2N (List.mem_of_getElem? hn);have hn1:=a2s mks hmk hv hu hi ht;have hsl:sl Ar.std (a0d sch) 0 (Ar.std.len (a0d sch))=some (a0d sch):=by
      rw [a0p,a4L (Nat.le_refl _),List.take_length]
     have e83:Z83 Ar.std (a0o c) (a0r u) m.a.cl m.a.ln m.a.r0 m.a.r1 m.a.r2 m.a.r3 m.a.at_ m.b.cl m.b.ln m.b.r0 m.b.r1 m.b.r2 m.b.r3 m.b.at_ m.c0 m.c1 m.c2 m.st (a0b m.h) (a0d m.ms)=some (b2C c u m):=by
      unfold Z83;exact bt (a7f _ (by simp;omega)) (bt (v:=()) (by rw [a3q];rfl) (bt (a7Q (c:=[]) ⟨by decide,fun r h=>by cases h⟩ (u:=[]) ⟨by decide,fun r h=>by cases h⟩ (sch:=[]) (by decide) _ (by simp;omega)) (bt (v:=()) (by rw [a5g];rfl) rfl)))
     obtain ⟨mp',hg',e⟩:=hself (a0j c u mks t.toNat m) (sch++[t]) mp out hn1 (a5h hmk hv hu hi hT ht) (by show m.st+1+(k':Int)=steps;omega) (by rw [List.length_append];show ((sch.length+1:Nat):Int)<=m.st+1;omega) hg;have hfm:a1i s (((a0y u m).take (i+1)).flatMap fun t=>a1j c u mks k' (a0j c u mks t.toNat m) (sch++[t]))=a1i s (a1j c u mks k' (a0j c u mks t.toNat m) (sch++[t])):=by
      rw [a0J hn,List.flatMap_append,a4s,hn0,Option.none_or];simp only [List.flatMap_cons,List.flatMap_nil,List.append_nil]
     cases hf:a1i s (a1j c u mks k' (a0j c u mks t.toNat m) (sch++[t])) with
     | none =>
       rw [hf] at e;refine .inl ⟨mp',⟨hg',by rw [hfm,hf]⟩,?_⟩;unfold a7B;refine cnT (by simp;omega) (bt (a0t hn) (bt e83 (bt (a9H mks hmk hv hu hi (by omega) ht) (bt hsl (bt (v:=()) (by simp [ck]) (bt (a1y (c:=cI .i64) rfl (by omega)) (bt e ?_)))))));refine cnT rfl ?_;simp only [a0g,a0i,a0G hi' (by omega)]
     | some q =>
       rw [hf] at e;refine .inr ⟨.inr (a0d q.2,mp',b2C c u (a0j c u mks t.toNat m)),⟨mp',q,b2C c u (a0j c u mks t.toNat m),hg',by rw [hfm,hf],rfl⟩,?_⟩;unfold a7B;refine cnT (by simp;omega) (bt (a0t hn) (bt e83 (bt (a9H mks hmk hv hu hi (by omega) ht) (bt hsl (bt (v:=()) (by simp [ck]) (bt (a1y (c:=cI .i64) rfl (by omega)) (bt e ?_)))))));exact cnF rfl rfl)
    (fun mp _=>by unfold a7B;exact cnF (by simp) rfl) mp ⟨hg,rfl⟩
   rcases key with ⟨mp',⟨hg',hf⟩,e⟩ | ⟨i,x,hi',⟨mp',q,w,hg',hf,rfl⟩,e⟩
   ·rw [List.take_length] at hf;refine ⟨mp',hg',?_⟩;unfold b7O;refine bt (a3H (a0o c) m h2) (bt ee ?_);rw [hb];refine cnF rfl (bt e ?_);rw [he,hf];rfl
   have hw:a1i s ((a0y u m).flatMap fun t=>a1j c u mks k' (a0j c u mks t.toNat m) (sch++[t]))=some q:=by
    rw [<-List.take_append_drop (i+1) (a0y u m),List.flatMap_append,a4s,hf];rfl
   refine ⟨mp',hg',?_⟩;unfold b7O;refine bt (a3H (a0o c) m h2) (bt ee ?_);rw [hb];refine cnF rfl (bt e ?_);rw [he,hw];rfl
end
def b6N (s:Spec) (c:Code) (u:Tab) (steps:Int):List Int×Int :=
 bif decide (a6W s c u=0) then (bif btw 0 steps 12 then (match a1i s (a1j c u [] steps.toNat mc0 []) with | none=>([],5) | some e=>(e.2,0)) else ([],2)) else ([],a6W s c u)
def c2Z (s:Spec) (c:Code) (u:Tab) (steps:Int):Bool×Int:=bif decide ((b6N s c u steps).2=5) then (true,0) else (false,(b6N s c u steps).2)
theorem a9V {c:Code} {u:Tab} {mks:List Int} : ∀ (k:Nat) (m:Mc) (sch:List Int),∀ e∈a1j c u mks k m sch,e.2.length<=sch.length+k
 | 0,m,sch,e,he=>by unfold a1j at he;rw [List.mem_singleton] at he;subst he;exact Nat.le_refl _
 | k+1,m,sch,e,he=>by
   unfold a1j at he;cases ho:a0S u m with
   | true=>rw [ho,cond_true,List.mem_singleton] at he;subst he;show sch.length<=_;omega
   | false =>
     rw [ho,cond_false] at he;obtain ⟨t,_,h2⟩:=List.mem_flatMap.1 he;have:=a9V k _ _ e h2;rw [List.length_append,List.length_singleton] at this;omega
section
variable {s:Spec} (hs:a0C s.2.2.1/\a0C s.2.2.2) {c:Code} (hc:a1q c) {u:Tab} (hut:a0C u)
include hs hc hut
theorem b7E (steps:Int):Z11 Ar.std s.1 s.2.1 (a0r s.2.2.1) (a0r s.2.2.2) (a0o c) (a0r u) steps=some (a0d (b6N s c u steps).1,(b6N s c u steps).2):=by
 unfold Z11 b6N;refine bt (b7x s hs c hc u hut) ?_;by_cases he:a6W s c u=0
 ·obtain ⟨hv,hk,ho,hu⟩:=b4T he;rw [decide_eq_true he,cond_true];have e34:Z34 Ar.std steps=some (btw 0 steps 12):=by unfold Z34;exact bt (a3I _ _ _) rfl
  refine cnT (by simp [he]) (bt e34 ?_);cases hb:btw 0 steps 12 with
  | false=>exact cnF rfl rfl
  | true =>
    have hb':=(a0n _ _ _).1 hb;obtain ⟨k,rfl⟩:=zp9 hb'.1;obtain ⟨mp',hg',e⟩:=b9d (mks:=[]) hs (.inl rfl) hv hu hb'.2 k mc0 [] [] [] (a7v c u) (b4u c u) (by simp [mc0]) (by simp [mc0]) (a4y.nil s);refine cnT rfl (bt (v:=(a0o c,a0r u)) rfl (bt e ?_));rw [cond_true,Int.toNat_natCast];cases hf:a1i s (a1j c u [] k mc0 []) with
    | none=>rfl
    | some q =>
      have hq:q∈a1j c u [] k mc0 []:=List.mem_of_find?_eq_some hf;have hl:=a9V k mc0 [] q hq;refine cnF rfl (bt (a7Q (c:=[]) ⟨by decide,fun r h=>by cases h⟩ (u:=[]) ⟨by decide,fun r h=>by cases h⟩ (sch:=[]) (by decide) _ (by simp at hl ⊢;omega)) rfl)
 rw [decide_eq_false he,cond_false];exact cnF (by simp [he]) rfl
theorem b7F (steps:Int):Z10 Ar.std s.1 s.2.1 (a0r s.2.2.1) (a0r s.2.2.2) (a0o c) (a0r u) steps=some (c2Z s c u steps):=by
 unfold Z10 c2Z;refine bt (b7E hs hc hut steps) ?_;by_cases h:(b6N s c u steps).2=5
 ·rw [decide_eq_true h];exact cnT (decide_eq_true h) rfl
 rw [decide_eq_false h];exact cnF (decide_eq_false h) rfl
end
end Go.Am
