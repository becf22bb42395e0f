import Derived.Test.YtlljehkmemajkaaGreatNL16
set_option maxRecDepth 100000
set_option maxHeartbeats 2000000
set_option linter.unusedVariables false
set_option linter.unusedSimpArgs false
set_option linter.unusedSectionVars false
namespace Go.Am
open Go
theorem wS {i:Nat} (h:i<=1000):Ar.std.wrp .i64 (Ar.std.zadd (i:Int) 1)=((i+1:Nat):Int):=by
 simp only [a0m,a0w];rw [a3v _ (by omega) (by omega)];rfl
abbrev Ax:=List (List (Int×Bool))
abbrev cAc:Cod (Int×Bool):=cG (lc (cI .i64) (l1 cB))
abbrev eAs (l:List (Int×Bool)):List D:=enc cAc l
def eA (x:Ax):List D:=enc (cL 2) (x.map (enc cAc))
@[simp] theorem b8N (x:Ax):(eA x).length=x.length:=by simp [eA]
theorem a5H {x:Ax} {i:Nat} {r:List (Int×Bool)} (h:x[i]?=some r):gt Ar.std (cL 2) (eA x) (i:Int)=some (eAs r):=a3n h
def thX (x:Ax) (t:Nat):List (Int×Bool):=x.getD t []
def acX (x:Ax) (t a:Nat):Int×Bool:=(thX x t).getD a (0,false)
theorem a1L {x:Ax} {t:Nat} (h:t<x.length):x[t]?=some (thX x t):=by
 unfold thX;rw [List.getD_eq_getElem?_getD,zp1 h];rfl
theorem a9p {x:Ax} {t a:Nat} (h:a<(thX x t).length):(thX x t)[a]?=some (acX x t a):=by
 unfold acX;rw [List.getD_eq_getElem?_getD,zp1 h];rfl
def a7u (a:Int×Bool):Bool:=btw 0 a.1 2
def a8w (l:List (Int×Bool)):Bool:=decide (l.length<=4)&&l.all a7u
def vX (x:Ax):Bool:=(decide (1<=x.length)&&decide (x.length<=3))&&x.all a8w
structure VX (x:Ax):Prop where
 n1:1<=x.length
 n3:x.length<=3
 l4 : ∀ t,(thX x t).length<=4
 acc : ∀ t a,a<(thX x t).length->0<=(acX x t a).1/\(acX x t a).1<=2
theorem VX.of {x:Ax} (h:vX x=true):VX x:=by
 unfold vX at h;simp only [zp4,decide_eq_true_eq,List.all_eq_true] at h;obtain ⟨⟨h1,h3⟩,h4⟩:=h;have hv : ∀ t,t<x.length->(thX x t).length<=4 /\ ∀ a∈thX x t,a7u a=true:=by
  intro t ht;have:=h4 _ (List.mem_of_getElem? (a1L ht));unfold a8w at this;simpa [zp4,List.all_eq_true] using this
 have hn : ∀ t,¬ t<x.length->thX x t=[]:=fun t ht=>by unfold thX;rw [List.getD_eq_getElem?_getD,List.getElem?_eq_none (by omega)];rfl
 refine ⟨h1,h3,fun t => ?_,fun t a ha => ?_⟩
 ·by_cases ht:t<x.length
  ·exact (hv t ht).1
  rw [hn t ht];simp
 by_cases ht:t<x.length
 ·have:=(hv t ht).2 _ (List.mem_of_getElem? (a9p ha));unfold a7u btw at this;simpa using this
 rw [hn t ht] at ha;simp at ha
def a6A (x:Ax):Prop:=x.length<=20 /\ ∀ l∈x,l.length<=20
theorem b8O (x:Ax) (hP:x.length<9223372036854775808) (hl : ∀ t∈x,t.length<9223372036854775808) : ∃ b,N21 Ar.std (eA x)=some b/\(b=false->a6A x):=by
 unfold N21;have key:=a7c (step:=b1h Ar.std (eA x)) x (fun t=>decide (20<t.length)) (.inr ()) (.inl ()) (fun i a ha hi=>by
  unfold b1h;refine cnT (by simp [hi]) (bt (a5H ha) ?_);rw [a0Y];simp only [a5w,a0m,a0w];rw [a4K hi (by omega)];by_cases h:20<a.length
  ·rw [decide_eq_true h];exact cnT (by simp;omega) rfl
  ·rw [decide_eq_false h];exact cnF (by simp;omega) rfl) (by
  unfold b1h;exact cnF (by simp) rfl)
 cases hb:x.any (fun t=>decide (20<t.length)) with
 | true =>
   rw [hb] at key;exact ⟨true,bt key rfl,fun h=>by cases h⟩
 | false =>
   rw [hb] at key;refine ⟨decide (20<x.length),bt key (by simp;omega),fun h=>⟨by simpa using h,fun t ht => ?_⟩⟩;rw [List.any_eq_false] at hb;have:=hb t ht;simpa using this
theorem b4x {l:List (Int×Bool)} (hl:l.length<=20):iter (b1i Ar.std (eAs l)) 0=some (bif l.any (fun a => !a7u a) then .inr () else .inl ()):=by
 refine a7c l (fun a => !a7u a) (Sum.inr ()) (Sum.inl ()) (fun i a ha hi => ?_) ?_
 ·unfold b1i;refine cnT (by simp [hi]) (bt (a1b ha) (bt (v := !a7u a) ?_ ?_))
  ·show (bif decide (a.1<0) then _ else _)=_
   unfold a7u btw;by_cases h0:a.1<0
   ·exact cnT (by simp [h0]) (by simp;omega)
   refine cnF (by simp [h0]) ?_;simp only [a4q];rw [decide_eq_true (show 0<=a.1 by omega),Bool.true_and];by_cases h3:3<=a.1
   ·rw [decide_eq_true h3,decide_eq_false (by omega)];rfl
   rw [decide_eq_false h3,decide_eq_true (by omega)];rfl
  cases a7u a with
  | true=>exact cnF rfl (by rw [wS (by omega)];rfl)
  | false=>rfl
 unfold b1i;exact cnF (by simp) rfl
theorem b8P {x:Ax} (hx:a6A x):N22 Ar.std (eA x)=some (vX x):=by
 have h20:=hx.1;have key:iter (b1j Ar.std (eA x)) 0=some (bif x.any (fun l => !a8w l) then .inr () else .inl ()):=by
  refine a7c x (fun l => !a8w l) (Sum.inr ()) (Sum.inl ()) (fun i l hl hi => ?_) ?_
  ·have hl20:=hx.2 l (List.mem_of_getElem? hl);unfold b1j;refine cnT (by simp [hi]) (bt (a5H hl) ?_);unfold a8w;by_cases h4:4<l.length
   ·refine cnT (by simp;omega) ?_;rw [decide_eq_false (by omega)];rfl
   refine cnF (by simp;omega) (bt (b4x hl20) ?_);rw [decide_eq_true (by omega)];have:l.any (fun a => !a7u a) = !l.all a7u:=by rw [List.all_eq_not_any_not];simp
   rw [this];cases l.all a7u with
   | true=>simp only [Bool.not_true,cond_false,Sum.elim_inl,Bool.and_true,Bool.true_and];rw [wS (by omega)]
   | false=>rfl
  unfold b1j;exact cnF (by simp) rfl
 have hn:x.any (fun l => !a8w l) = !x.all a8w:=by rw [List.all_eq_not_any_not];simp
 rw [hn] at key;unfold N22;refine bt key ?_;unfold vX;cases x.all a8w with
 | false=>simp
 | true =>
   simp only [Bool.not_true,cond_false,Sum.elim_inl,Bool.and_true];refine bt (v:=decide (1<=x.length)&&decide (x.length<=3)) ?_ rfl;by_cases h1:1<=x.length
   ·refine cnT (by simp;omega) ?_;rw [decide_eq_true h1];simp;omega
   refine cnF (by simp;omega) ?_;rw [decide_eq_false h1];simp
theorem b0e (a b c:Int):N72 Ar.std a b c=some (btw a b c):=by
 unfold N72 btw;simp only [a4q];by_cases h:a<=b <;> simp [h]
theorem a3s {α:Type} {l:List α} {p:α->Bool}:(l.findIdx? p).isSome=l.any p:=by
 rw [List.findIdx?_isSome]
theorem b8Q {l:List (Int×Bool)} (hl:l.length<=20):N75 Ar.std (eAs l)=some (l.any fun a => !a7u a):=by
 have key:=a1H (step:=a7v Ar.std (eAs l)) l (fun a => !a7u a) (fun i=>(Sum.inr (i:Int):Unit⊕Int)) (Sum.inl ()) (fun i a ha hi=>by
   unfold a7v;refine cnT (by simp [hi]) (bt (a1b ha) (bt (v := !a7u a) (by unfold N76;exact bt (b0e _ _ _) rfl) ?_));cases a7u a with
   | true=>exact cnF rfl (by rw [wS (by omega)];rfl)
   | false=>rfl) (by
   unfold a7v;exact cnF (by simp) rfl)
 unfold N75 b9k;rw [<-a3s (l:=l) (p:=fun a => !a7u a)];cases hf:l.findIdx? (fun a => !a7u a) with
 | none=>rw [hf] at key;exact bt (v := -1) (bt key rfl) rfl
 | some i=>rw [hf] at key;exact bt (v:=(i:Int)) (bt key rfl) (by simp)
theorem b5C {x:Ax} (hx:a6A x):N39 Ar.std (eA x)=some (vX x):=by
 have h20:=hx.1;have h74 : ∀ l∈x,N74 Ar.std (eAs l)=some (!a8w l):=by
  intro l hl;have:=hx.2 l hl;unfold N74 a8w;by_cases h4:4<l.length
  ·refine bt (v:=true) (cnT (by simp;omega) rfl) ?_;rw [decide_eq_false (by omega)];rfl
  refine bt (v:=l.any fun a => !a7u a) (cnF (by simp;omega) (bt (b8Q this) rfl)) ?_;rw [decide_eq_true (by omega),List.all_eq_not_any_not];simp
 have h73:N73 Ar.std (eA x)=some (!x.all a8w):=by
  have key:=a1H (step:=a7w Ar.std (eA x)) x (fun l => !a8w l) (fun i=>(Sum.inr (i:Int):Unit⊕Int)) (Sum.inl ()) (fun i l hl hi=>by
    unfold a7w;refine cnT (by simp [hi]) (bt (a5H hl) (bt (h74 l (List.mem_of_getElem? hl)) ?_));cases a8w l with
    | true=>exact cnF rfl (by rw [wS (by omega)];rfl)
    | false=>rfl) (by
    unfold a7w;exact cnF (by simp) rfl)
  unfold N73 b9l;have hn:(!x.all a8w)=x.any (fun l => !a8w l):=by rw [List.all_eq_not_any_not];simp
  rw [hn,<-a3s (l:=x) (p:=fun l => !a8w l)];cases hf:x.findIdx? (fun l => !a8w l) with
  | none=>rw [hf] at key;exact bt (v := -1) (bt key rfl) rfl
  | some i=>rw [hf] at key;exact bt (v:=(i:Int)) (bt key rfl) (by simp)
 unfold N39;refine bt (v:=vX x) (bt (b0e _ _ _) ?_) rfl;have hl:Ar.std.len (eA x)=(x.length:Int):=by simp
 rw [hl];unfold vX;have hb:btw 1 (x.length:Int) 3=(decide (1<=x.length)&&decide (x.length<=3)):=by
  unfold btw;by_cases h1:1<=x.length <;> by_cases h3:x.length<=3 <;> simp [h1,h3] <;> omega
 rw [hb];cases (decide (1<=x.length)&&decide (x.length<=3)) with
 | false=>rfl
 | true=>exact cnT rfl (bt h73 (by simp))
def allX (x:Ax):Nat:=(x.map List.length).sum
theorem c1c {x:Ax} (hP:x.length<9223372036854775808) (hl : ∀ t∈x,t.length<9223372036854775808) : ∃ b,N5 Ar.std (eA x) 6=some b/\(b=true->a6A x/\vX x=true/\allX x<=6):=by
 obtain ⟨q,e,hq⟩:=b8O x hP hl;unfold N5;cases q with
 | true=>exact ⟨false,bt (v:=true) (bt e rfl) (cnT rfl rfl),fun h=>by cases h⟩
 | false =>
   have hS:=hq rfl;have e2:=b8P hS;cases hv:vX x with
   | false =>
     rw [hv] at e2;exact ⟨false,bt (v:=true) (bt e (cnF rfl (bt e2 rfl))) (cnT rfl rfl),fun h=>by cases h⟩
   | true =>
     rw [hv] at e2;have hV:=VX.of hv;have hn3:=hV.n3;have hsum : ∀ i,((x.take i).map List.length).sum<=4*i:=by
      intro i
      induction i with
      | zero=>simp
      | succ i ih =>
        by_cases hi:i<x.length
        ·rw [a0i (a1L hi)];have:=hV.l4 i;simp only [List.map_append,List.map_cons,List.map_nil,List.sum_append,List.sum_cons,List.sum_nil];omega
        rw [List.take_of_length_le (by omega)];rw [List.take_of_length_le (by omega)] at ih;omega
     have key:=a0D (step:=b7c Ar.std (eA x)) x.length (fun (_:Unit) (i:Nat)=>((((x.take i).map List.length).sum:Int),(i:Int))) (fun _ _=>True) (fun _=>((allX x:Nat):Int))
      (fun i _ hi _=>by
       refine ⟨(),trivial,?_⟩;unfold b7c;dsimp only;have hs:=hsum i;have h4:=hV.l4 i;refine cnT (by simp [hi]) (bt (a5H (a1L hi)) ?_);rw [wS (by omega)];have ew:Ar.std.wrp .i64 (Ar.std.zadd (((x.take i).map List.length).sum:Int) (Ar.std.len (eAs (thX x i))))=(((x.take (i+1)).map List.length).sum:Int):=by
        rw [a0Y];simp only [a0m,a0w];rw [a3v _ (by omega) (by omega),a0i (a1L hi)];simp only [List.map_append,List.map_cons,List.map_nil,List.sum_append,List.sum_cons,List.sum_nil];omega
       rw [ew])
      (fun _ _=>by
       unfold b7c;dsimp only;refine cnF (by simp) ?_;rw [List.take_length];rfl) () trivial
     obtain ⟨_,_,h⟩:=key;refine ⟨decide (allX x<=6),bt (v:=false) (bt e (cnF rfl (bt e2 rfl))) (cnF rfl (bt (show iter (b7c Ar.std (eA x)) (0,0)=_ from by simpa using h) ?_)),fun h=>⟨hS,rfl,by simpa using h⟩⟩;simp only [a4q];congr 1;simp;omega
abbrev S3:=Nat×Nat×Nat
def sI (s:S3):Int×Int×Int:=((s.1:Int),(s.2.1:Int),(s.2.2:Int))
abbrev eSt (l:List S3):List D:=enc cA3 (l.map sI)
def a9q (x:Ax) (t a:Nat):Prop:=t<x.length/\a<(thX x t).length
def cfX (x:Ax) (t a u b:Nat):Bool := !decide (t=u)&&(decide ((acX x t a).1=(acX x u b).1)&&((acX x t a).2||(acX x u b).2))
theorem a7m {x:Ax} {t a:Nat} (h:a9q x t a):b4N Ar.std (eA x) (t:Int) (a:Int)=some ((acX x t a).1,(acX x t a).2):=by
 unfold b4N;exact bt (a5H (a1L h.1)) (bt (a1b (a9p h.2)) rfl)
theorem a9r {x:Ax} {t a u b:Nat} (h:a9q x t a) (h':a9q x u b):b3x Ar.std (eA x) (t:Int) (a:Int) (u:Int) (b:Int)=some (cfX x t a u b):=by
 unfold b3x;refine bt (a7m h) (bt (a7m h') (bt (v:=cfX x t a u b) ?_ rfl));unfold cfX;show (bif decide ((t:Int)=(u:Int)) then _ else bif decide ((acX x t a).1=(acX x u b).1) then _ else _)=_
 by_cases htu:t=u
 ·refine cnT (by simp [htu]) ?_;simp [htu]
 refine cnF (by simp;omega) ?_;by_cases hv:(acX x t a).1=(acX x u b).1
 ·refine cnT (by simp [hv]) ?_;cases (acX x t a).2 <;> simp [htu,hv]
 refine cnF (by simp [hv]) ?_;simp [htu,hv]
def a3K (x:Ax) (s:S3):Prop:=a9q x s.1 s.2.1/\a9q x s.1 s.2.2/\(s.2.1=s.2.2\/(s.2.1<s.2.2/\(acX x s.1 s.2.1).1≠(acX x s.1 s.2.2).1))
def prB (x:Ax) (s:S3):Bool:=decide (s.2.1<s.2.2) && !decide ((acX x s.1 s.2.1).1=(acX x s.1 s.2.2).1)
theorem b3d {x:Ax} (hv:VX x) {t a:Nat} (h:a9q x t a):b7d Ar.std (eA x) (t:Int) (a:Int)=some true:=by
 have hn3:=hv.n3;have h4:=hv.l4 t;have hl:Ar.std.len (eA x)=(x.length:Int):=by simp
 obtain ⟨h1,h2⟩:=h;unfold b7d;have e1:Ar.std.wrp .i64 (Ar.std.zsub (Ar.std.len (eA x)) 1)=((x.length-1:Nat):Int):=by
  rw [hl];simp only [a0m,a0J];rw [a3v _ (by omega) (by omega)];omega
 have e2:Ar.std.wrp .i64 (Ar.std.zsub (Ar.std.len (eAs (thX x t))) 1)=(((thX x t).length-1:Nat):Int):=by
  rw [a0Y];simp only [a0m,a0J];rw [a3v _ (by omega) (by omega)];omega
 have b1:btw 0 (t:Int) ((x.length-1:Nat):Int)=true:=by unfold btw;simp;omega
 have b2:btw 0 (a:Int) (((thX x t).length-1:Nat):Int)=true:=by unfold btw;simp;omega
 refine bt (v:=true) ?_ rfl;rw [e1];refine bt (b0e _ _ _) ?_;rw [b1];refine cnT rfl (bt (a5H (a1L h1)) ?_);rw [e2];refine bt (b0e _ _ _) ?_;rw [b2]
theorem b0f {x:Ax} (hv:VX x) {s:S3} (h:a9q x s.1 s.2.1) (h':a9q x s.1 s.2.2):N91 Ar.std (eA x) (s.1:Int) (s.2.1:Int) (s.2.2:Int)=some (prB x s):=by
 unfold N91;refine bt (v:=prB x s) ?_ rfl;unfold prB;by_cases hlt:s.2.1<s.2.2
 ·refine cnT (by simp;omega) ?_;refine bt rfl (bt (b3d hv h) (cnT rfl (bt rfl (bt (b3d hv h') (cnT rfl (bt rfl (bt (a7m h) (bt rfl (bt (a7m h') ?_)))))))));simp [hlt,Ar.std]
 refine cnF (by simp;omega) ?_;simp [hlt]
theorem b0g {L:List S3} (s:S3) (h:L.length<4294967295):ap Ar.std (eSt L) [.agg [.int .i64 (s.1:Int),.int .i64 (s.2.1:Int),.int .i64 (s.2.2:Int)]]=some (eSt (L++[s])):=by
 have:=a5x (c:=cA3) (l:=L.map sI) (a:=sI s) (d := .agg [.int .i64 (s.1:Int),.int .i64 (s.2.1:Int),.int .i64 (s.2.2:Int)]) rfl (by simpa using h);rw [this];simp [eSt]
def a9s (t a b:Nat) (s:S3):Prop:=s.1<t\/(s.1=t/\(s.2.1<a\/(s.2.1=a/\s.2.2<b)))
theorem b8R {x:Ax} {t a b:Nat} (h:a9q x t a) (h':a9q x t b) (hab:a<=b):a3K x (t,a,b)↔(decide (a=b)||prB x (t,a,b))=true:=by
 unfold a3K prB;simp only [Bool.or_eq_true,zp4,decide_eq_true_eq,Bool.not_eq_true',decide_eq_false_iff_not];constructor
 ·rintro ⟨_,_,h3⟩;exact h3
 intro h3;exact ⟨h,h',h3⟩
theorem b4y {x:Ax} (hv:VX x) {t a:Nat} (ht:t<x.length) (ha:a<(thX x t).length) {L:List S3} (hL:L.length<=1000) (hR : ∀ s,s∈L↔a3K x s/\a9s t a a s) :
  ∃ L':List S3,L'.length<=L.length+4/\(∀ s,s∈L'↔a3K x s/\a9s t a (thX x t).length s)/\iter (a5S Ar.std (eA x) (t:Int) (eAs (thX x t)) (a:Int)) (eSt L,(a:Int))=some (eSt L'):=by
 have h4:=hv.l4 t;have key:=a0D (step:=a5S Ar.std (eA x) (t:Int) (eAs (thX x t)) (a:Int)) ((thX x t).length-a) (fun (M:List S3) (i:Nat)=>(eSt M,((a+i:Nat):Int)))
  (fun i M=>M.length<=L.length+i /\ ∀ s,s∈M↔a3K x s/\a9s t a (a+i) s) (fun M=>eSt M)
  (fun i M hi hM=>by
   obtain ⟨hM1,hM2⟩:=hM;have hb:a+i<(thX x t).length:=by omega
   have hst:=b8R (x:=x) ⟨ht,ha⟩ ⟨ht,hb⟩ (show a<=a+i by omega);have hbef : ∀ s:S3,a9s t a (a+(i+1)) s↔a9s t a (a+i) s\/s=(t,a,a+i):=by
    intro s;obtain ⟨s1,s2,s3⟩:=s;unfold a9s;simp only [Prod.mk.injEq];omega
   have e91:=b0f hv (s:=(t,a,a+i)) ⟨ht,ha⟩ ⟨ht,hb⟩;have ew:Ar.std.wrp .i64 (Ar.std.zadd ((a+i:Nat):Int) 1)=((a+(i+1):Nat):Int):=by rw [wS (by omega)];rfl
   have hq:(bif Ar.std.zeq (a:Int) ((a+i:Nat):Int) then some true else (N91 Ar.std (eA x) (t:Int) (a:Int) ((a+i:Nat):Int)).bind fun r118=>some r118)=some (decide (a=a+i)||prB x (t,a,a+i)):=by
    by_cases h:a=a+i
    ·exact cnT (by simp;omega) (by rw [decide_eq_true h];rfl)
    exact cnF (by simp;omega) (bt e91 (by rw [decide_eq_false h];rfl))
   refine ⟨bif (decide (a=a+i)||prB x (t,a,a+i)) then M++[(t,a,a+i)] else M,?_,?_⟩
   ·cases hc:(decide (a=a+i)||prB x (t,a,a+i)) with
    | true =>
      refine ⟨by simp;omega,fun s => ?_⟩;simp only [cond_true,List.mem_append,List.mem_singleton,hM2,hbef];constructor
      ·rintro (⟨h1,h2⟩ | rfl)
       ·exact ⟨h1,.inl h2⟩
       exact ⟨hst.2 hc,.inr rfl⟩
      rintro ⟨h1,h2 | h2⟩
      ·exact .inl ⟨h1,h2⟩
      exact .inr h2
    | false =>
      refine ⟨by simp;omega,fun s => ?_⟩;simp only [cond_false,hM2,hbef];constructor
      ·rintro ⟨h1,h2⟩;exact ⟨h1,.inl h2⟩
      rintro ⟨h1,h2 | rfl⟩
      ·exact ⟨h1,h2⟩
      have:=hst.1 h1;rw [hc] at this;cases this
   unfold a5S;refine cnT (by simp;omega) (bt hq (bt (v:=eSt (bif (decide (a=a+i)||prB x (t,a,a+i)) then M++[(t,a,a+i)] else M)) ?_ (by rw [ew])))
   cases hc:(decide (a=a+i)||prB x (t,a,a+i)) with
   | true=>exact cnT rfl (bt (b0g (t,a,a+i) (by omega)) rfl)
   | false=>exact cnF rfl rfl)
  (fun M hM=>by
   unfold a5S;exact cnF (by simp;omega) rfl) L ⟨by omega,hR⟩
 obtain ⟨M,⟨h1,h2⟩,h⟩:=key;refine ⟨M,by omega,fun s => ?_,h⟩;rw [h2,show a+((thX x t).length-a)=(thX x t).length by omega]
theorem b4z {x:Ax} (hv:VX x) {t:Nat} (ht:t<x.length) {L:List S3} (hL:L.length<=500) (hR : ∀ s,s∈L↔a3K x s/\a9s t 0 0 s) :
  ∃ L':List S3,L'.length<=L.length+16/\(∀ s,s∈L'↔a3K x s/\a9s (t+1) 0 0 s)/\iter (a5T Ar.std (eA x) (t:Int) (eAs (thX x t))) (eSt L,0)=some (eSt L'):=by
 have h4:=hv.l4 t;have key:=a0D (step:=a5T Ar.std (eA x) (t:Int) (eAs (thX x t))) (thX x t).length (fun (M:List S3) (i:Nat)=>(eSt M,(i:Int)))
  (fun i M=>M.length<=L.length+4*i /\ ∀ s,s∈M↔a3K x s/\a9s t i i s) (fun M=>eSt M)
  (fun i M hi hM=>by
   obtain ⟨hM1,hM2⟩:=hM;obtain ⟨M',q1,q2,q3⟩:=b4y hv ht hi (L:=M) (by omega) hM2;refine ⟨M',⟨by omega,fun s => ?_⟩,?_⟩
   ·rw [q2];constructor
    ·rintro ⟨h1,h2⟩;refine ⟨h1,?_⟩;obtain ⟨s1,s2,s3⟩:=s;obtain ⟨g1,g2,g3⟩:=h1;unfold a9s a9q at *;dsimp only at *;rcases h2 with h2 | ⟨rfl,h2 | ⟨rfl,h2⟩⟩
     ·exact .inl h2
     ·refine .inr ⟨rfl,.inl (by omega)⟩
     refine .inr ⟨rfl,.inl (by omega)⟩
    rintro ⟨h1,h2⟩;refine ⟨h1,?_⟩;obtain ⟨s1,s2,s3⟩:=s;obtain ⟨g1,g2,g3⟩:=h1;unfold a9s a9q at *;dsimp only at *;rcases h2 with h2 | ⟨rfl,h2 | ⟨rfl,h2⟩⟩
    ·exact .inl h2
    ·by_cases h:s2<i
     ·exact .inr ⟨rfl,.inl h⟩
     exact .inr ⟨rfl,.inr ⟨by omega,g2.2⟩⟩
    rcases g3 with g3 | g3 <;> omega
   unfold a5T;refine cnT (by simp;omega) (bt q3 ?_);rw [wS (by omega)])
  (fun M hM=>by
   unfold a5T;exact cnF (by simp) rfl) L ⟨by omega,hR⟩
 obtain ⟨M,⟨h1,h2⟩,h⟩:=key;refine ⟨M,by omega,fun s => ?_,h⟩;rw [h2];obtain ⟨s1,s2,s3⟩:=s;constructor
 ·rintro ⟨g,h⟩;refine ⟨g,?_⟩;unfold a9s at *;dsimp only at *;omega
 rintro ⟨g,h⟩;refine ⟨g,?_⟩;obtain ⟨g1,g2,g3⟩:=g;unfold a9s a9q at *;dsimp only at *;by_cases hs:s1=t
 ·subst hs;exact .inr ⟨rfl,.inl g1.2⟩
 exact .inl (by omega)
theorem b3e {x:Ax} (hv:VX x) : ∃ L:List S3,L.length<=48/\(∀ s,s∈L↔a3K x s)/\N80 Ar.std (eA x)=some (eSt L):=by
 have hn3:=hv.n3;have key:=a0D (step:=a5U Ar.std (eA x)) x.length (fun (M:List S3) (i:Nat)=>(eSt M,(i:Int)))
  (fun i M=>M.length<=16*i /\ ∀ s,s∈M↔a3K x s/\a9s i 0 0 s) (fun M=>eSt M)
  (fun i M hi hM=>by
   obtain ⟨hM1,hM2⟩:=hM;obtain ⟨M',q1,q2,q3⟩:=b4z hv hi (L:=M) (by omega) hM2;refine ⟨M',⟨by omega,q2⟩,?_⟩;unfold a5U;refine cnT (by simp;omega) (bt (a5H (a1L hi)) (bt q3 ?_));rw [wS (by omega)])
  (fun M hM=>by
   unfold a5U;exact cnF (by simp) rfl) [] ⟨by simp,fun s=>by
    constructor
    ·intro h;simp at h
    rintro ⟨_,h⟩;unfold a9s at h;omega⟩
 obtain ⟨M,⟨h1,h2⟩,h⟩:=key;refine ⟨M,by omega,fun s => ?_,by unfold N80;exact bt (show iter (a5U Ar.std (eA x)) ([],0)=_ from h) rfl⟩;rw [h2];constructor
 ·exact fun h=>h.1
 intro h;exact ⟨h,.inl h.1.1⟩
noncomputable def b0h (A:Ar) (pred:Int->Int->Int->Option Bool) (x1:Int) (x2:Int) (x4:List D):Int->Option ((Int)⊕((Unit)⊕(Int))):=fun v18 =>
 bif (A.zlt v18 x2) then
  (ck (A.zle 0 v18)).bind fun _ =>
  (ck (A.zlt v18 x2)).bind fun _ =>
  (gc A (cG (lc (cI .i64) (lc (cI .i64) (l1 (cI .i64))))) x4 (A.nat (A.zadd x1 v18))).bind fun (a24,a25,a26) =>
  (pred a24 a25 a26).bind fun r30 =>
  bif r30 then
   some (.inr (.inr v18))
  else
   some (.inl (A.wrp .i64 (A.zadd v18 1)))
 else
  some (.inr (.inl ()))
noncomputable def c1d (A:Ar) (pred:Int->Int->Int->Option Bool) (x1:Int) (x2:Int) (x4:List D):Option (Int) :=
 (iter (b0h A pred x1 x2 x4) 0).bind (Sum.elim (fun _ =>
  some (-1)) (fun v32 =>
  some v32))
noncomputable def a8x (A:Ar) (pred:Int->Int->Int->Option Bool) (x1:Int) (x2:Int):(Int×Int×List D)->Option ((Int×Int×List D)⊕(Int×List D)):=fun (v33,v34,v35) =>
 bif (A.zlt v34 x2) then
  (ck (A.zle 0 v34)).bind fun _ =>
  (ck (A.zlt v34 x2)).bind fun _ =>
  (gc A (cG (lc (cI .i64) (lc (cI .i64) (l1 (cI .i64))))) v35 (A.nat (A.zadd x1 v34))).bind fun (a41,a42,a43) =>
  (pred a41 a42 a43).bind fun r47 =>
  ((
   bif r47 then
    some (v33,v35)
   else
    (ck (A.zle 0 v33)).bind fun _ =>
    (ck (A.zlt v33 x2)).bind fun _ =>
    (gc A (cG (lc (cI .i64) (lc (cI .i64) (l1 (cI .i64))))) v35 (A.nat (A.zadd x1 v33))).bind fun (a53,a54,a55) =>
    some ((A.wrp .i64 (A.zadd v33 1)),(A.lset v35 (A.nat (A.zadd x1 v33)) (.agg [(.int .i64 a41),(.int .i64 a42),(.int .i64 a43)]))):Option (Int×List D))).bind fun (v58,v59) =>
  some (.inl (v58,(A.wrp .i64 (A.zadd v34 1)),v59))
 else
  some (.inr (v33,v35))
noncomputable def c1z (A:Ar) (pred:Int->Int->Int->Option Bool) (x1:Int) (x2:Int) (x4:List D):Option (Int×Int×List D) :=
 (c1d A pred x1 x2 x4).bind fun r6 =>
 bif (A.zeq r6 (-1)) then
  some (x1,x2,x4)
 else
  (iter (a8x A pred x1 x2) (r6,(A.wrp .i64 (A.zadd r6 1)),x4)).bind (fun (v61,v62) =>
  (ck (A.zle 0 v61)).bind fun _ =>
  (ck (A.zle v61 x2)).bind fun _ =>
  (ck (A.zle x2 x2)).bind fun _ =>
  (ck (A.zle (A.zadd (A.zadd x1 v61) (A.zsub x2 v61)) (A.len v62))).bind fun _ =>
  (ck (A.zle 0 0)).bind fun _ =>
  (ck (A.zle 0 v61)).bind fun _ =>
  (ck (A.zle v61 x2)).bind fun _ =>
  some ((A.zadd x1 0),(A.zsub v61 0),(A.fill v62 (A.zadd x1 v61) (A.zsub x2 v61) (.agg [(.int .i64 0),(.int .i64 0),(.int .i64 0)]))))
theorem c1e (l:List Ac) {i:Nat} (h:i<l.length) (x:Ac) {z:Nat} (hz:z=i):Ar.std.lset (eT l) z (.agg [.int .i64 x.1,.int .i64 x.2.1,.int .i64 x.2.2])=eT (l.set i x):=by
 subst hz;show (eT l).set z _=_;unfold eT enc;rw [List.map_set];rfl
theorem gcT {l:List Ac} {i:Nat} {x:Ac} (h:l[i]?=some x) {z:Nat} (hz:z=i):gc Ar.std cA3 (eT l) z=some x:=by
 subst hz;have h2:(eT l)[z]?=some (cA3.en x):=by
  unfold eT enc;rw [List.getElem?_map,h];rfl
 unfold gc;have:Ar.std.lget (eT l) z=some (cA3.en x):=h2;rw [this];rfl
theorem a9t {l:List Ac} {p:Ac->Bool} {i:Nat} {x:Ac} (h:l[i]?=some x):(l.take (i+1)).filter p=bif p x then (l.take i).filter p++[x] else (l.take i).filter p:=by
 rw [a0i h,List.filter_append];cases hp:p x <;> simp [hp]
theorem b3f {X:List Ac} {n:Nat} (hn:n<=X.length) (hl:n<=500) {pred:Int->Int->Int->Option Bool} {keep:Ac->Bool} (hp : ∀ (i:Nat) (a:Ac),i<n->X[i]?=some a->pred a.1 a.2.1 a.2.2=some (!keep a)) :
  ∃ X':List Ac,c1z Ar.std pred 0 (n:Int) (eT X)=some (0,(((X.take n).filter keep).length:Int),eT X')/\X'.take ((X.take n).filter keep).length=(X.take n).filter keep/\((X.take n).filter keep).length<=X'.length:=by
 have ez : ∀ i:Nat,Ar.std.nat (Ar.std.zadd 0 (i:Int))=i:=fun i=>by simp
 have hlen:(X.take n).length=n:=by simp;omega
 have get : ∀ i,i<n->(X.take n)[i]?=X[i]?:=fun i hi=>List.getElem?_take_of_lt hi;generalize hl0:X.take n=l at *;have hln:l.length=n:=hlen;have e0:c1d Ar.std pred 0 (n:Int) (eT X)=some ((l.findIdx? fun x => !keep x).elim (-1) (fun i=>(i:Int))):=by
  have key:=a1H (step:=b0h Ar.std pred 0 (n:Int) (eT X)) l (fun x => !keep x) (fun i=>(Sum.inr (i:Int):Unit⊕Int)) (Sum.inl ()) (fun i a ha hi=>by
   have hx:X[i]?=some a:=by rw [<-get i (by omega)];exact ha
   unfold b0h;refine cnT (by simp;omega) (bck (by simp) (bck (by simp;omega) ?_));rw [ez];refine bt (gcT hx rfl) (bt (hp i a (by omega) hx) ?_);rw [wS (by omega)];cases keep a <;> rfl) (by
   unfold b0h;exact cnF (by simp;omega) rfl)
  unfold c1d;refine bt key ?_;cases l.findIdx? (fun x => !keep x) <;> rfl
 unfold c1z;have hself:(l.take l.length).filter keep=l.filter keep:=by rw [List.take_length]
 cases hf:l.findIdx? fun x => !keep x with
 | none =>
   rw [hf] at e0;rw [List.findIdx?_eq_none_iff] at hf;have e:l.filter keep=l:=by
    rw [List.filter_eq_self];intro x hx;have:=hf x hx;simpa using this
   rw [e,hln];exact ⟨X,bt e0 (cnT (by simp) rfl),hl0,by omega⟩
 | some q =>
   rw [hf] at e0;obtain ⟨hq,hq1,hq2⟩:=List.findIdx?_eq_some_iff_getElem.1 hf;simp only [Option.elim_some] at e0;have hkq : ∀ i,i<=q->(l.take i).filter keep=l.take i:=by
    intro i
    induction i with
    | zero=>intro _;rfl
    | succ i ih =>
      intro hi;have hx:l[i]?=some l[i]:=zp1 (by omega);have h2:=hq2 i (by omega);have h3:keep l[i]=true:=by simpa using h2
      rw [a9t hx,ih (by omega),h3,cond_true,a0i hx]
   have hxq:l[q]?=some l[q]:=zp1 hq;have hkq1:(l.take (q+1)).filter keep=l.take q:=by
    have h3:keep l[q]=false:=by simpa using hq1
    rw [a9t hxq,h3,cond_false,hkq q (Nat.le_refl _)]
   obtain ⟨⟨w,m⟩,⟨h1,h2,h3,h4,h5⟩,e⟩:=a0D (step:=a8x Ar.std pred 0 (n:Int)) (l.length-q-1) (fun (s:Nat×List Ac) (i:Nat)=>((s.1:Int),((q+1+i:Nat):Int),eT s.2))
    (fun i s=>s.1=((l.take (q+1+i)).filter keep).length/\s.2.take s.1=(l.take (q+1+i)).filter keep/\s.2.length=X.length/\(∀ j,q+1+i<=j->s.2[j]?=X[j]?)/\s.1<=q+i) (fun s=>((s.1:Int),eT s.2))
    (fun i s hi hR=>by
     obtain ⟨w,m⟩:=s;obtain ⟨g1,g2,g3,g4,g5⟩:=hR;simp only at g1 g2 g3 g4 g5;have hx:l[q+1+i]?=some l[q+1+i]:=zp1 (by omega);have hX:X[q+1+i]?=some l[q+1+i]:=by rw [<-get _ (by omega)];exact hx
     have mx:m[q+1+i]?=some l[q+1+i]:=by rw [g4 _ (Nat.le_refl _),hX]
     have hsucc:=a9t (p:=keep) hx;rw [show q+1+i+1=q+1+(i+1) by omega] at hsucc;have hpr:=hp _ _ (by omega) hX;cases hd:keep l[q+1+i] with
     | false =>
       rw [hd,cond_false] at hsucc;refine ⟨(w,m),⟨by rw [hsucc];exact g1,by rw [hsucc];exact g2,g3,fun j hj=>g4 j (by omega),by simp only;omega⟩,?_⟩;unfold a8x;dsimp only;rw [ez];refine cnT (by simp;omega) (bck (by simp;omega) (bck (by simp;omega) (bt (gcT mx rfl) (bt hpr ?_))));rw [hd,wS (i:=q+1+i) (by omega)];rfl
     | true =>
       rw [hd,cond_true] at hsucc;have htk:(m.set w l[q+1+i]).take (w+1)=(l.take (q+1+i)).filter keep++[l[q+1+i]]:=by
        have:(m.set w l[q+1+i])[w]?=some l[q+1+i]:=List.getElem?_set_self (by omega);rw [a0i this,List.take_set_of_le (Nat.le_refl _),g2]
       refine ⟨(w+1,m.set w l[q+1+i]),⟨by rw [hsucc,List.length_append,<-g1];rfl,by rw [hsucc];exact htk,by simp only [List.length_set];exact g3,fun j hj => ?_,by simp only;omega⟩,?_⟩
       ·simp only;rw [List.getElem?_set_ne (by omega)];exact g4 j (by omega)
       unfold a8x;dsimp only;rw [ez,ez];refine cnT (by simp;omega) (bck (by simp;omega) (bck (by simp;omega) (bt (gcT mx rfl) (bt hpr ?_))));rw [hd,wS (i:=q+1+i) (by omega)];refine bt (v:=(((w+1:Nat):Int),eT (m.set w l[q+1+i]))) ?_ rfl;have hmw:m[w]?=some m[w]:=zp1 (by omega);refine cnF rfl (bck (by simp) (bck (by simp;omega) (bt (gcT hmw rfl) ?_)));rw [c1e m (i:=w) (by omega) _ rfl,wS (i:=w) (by omega)])
    (fun s _=>by
     unfold a8x;exact cnF (by simp;omega) rfl) (q,X) ⟨by rw [Nat.add_zero,hkq1,List.length_take];omega,by
      rw [Nat.add_zero,hkq1,<-hl0,List.take_take,Nat.min_eq_left (by omega)],rfl,fun _ _=>rfl,by simp⟩
   have hqn2:q+1+(l.length-q-1)=l.length:=by omega
   rw [hqn2,hself] at h1 h2;simp only at h1 h2 h3 h5 e;rw [<-h1];have hwn:w<=n:=by rw [h1,<-hln];exact List.length_filter_le _ _
   refine ⟨m.take w++List.replicate (n-w) (0,0,0)++m.drop n,?_,?_,?_⟩
   ·refine bt e0 (cnF (by simp) ?_);rw [wS (i:=q) (by omega)];rw [Nat.add_zero] at e;refine bt e ?_;dsimp only;have hml:Ar.std.len (eT m)=(X.length:Int):=by rw [<-h3];simp
    refine bck (by simp) (bck (by simp;omega) (bck (by simp) (bck (by rw [hml];simp;omega) (bck (by simp) (bck (by simp) (bck (by simp;omega) ?_))))));have hfl:Ar.std.fill (eT m) (Ar.std.zadd 0 (w:Int)) (Ar.std.zsub (n:Int) (w:Int)) (.agg [.int .i64 0,.int .i64 0,.int .i64 0])=eT (m.take w++List.replicate (n-w) (0,0,0)++m.drop n):=by
     have a1:Ar.std.zadd 0 (w:Int)=(w:Int):=by simp
     have a2:Ar.std.zsub (n:Int) (w:Int)=((n-w:Nat):Int):=by simp;omega
     rw [a1,a2,a6Z];unfold a1c eT enc;rw [Int.toNat_natCast,Int.toNat_natCast,List.map_append,List.map_append,List.map_take,List.map_drop,List.map_replicate,show w+(n-w)=n by omega];rfl
    rw [hfl];simp
   ·rw [List.append_assoc,List.take_append_of_le_length (by simp;omega),List.take_take,Nat.min_self];exact h2
   simp;omega
theorem a3h {L:List S3} {i:Nat} {s:S3} (h:L[i]?=some s):gt Ar.std cA3 (eSt L) (i:Int)=some ((s.1:Int),(s.2.1:Int),(s.2.2:Int)):=a3n (g:=sI) h
theorem a0Q (L:List S3):Ar.std.len (eSt L)=(L.length:Int):=by rw [a0Y];simp
theorem b8S {L:List S3} (h:0<L.length):Ar.std.zeq (Ar.std.len (eSt L)) 0=false:=by
 rw [a0Q];show decide ((L.length:Int)=0)=false;rw [decide_eq_false_iff_not];omega
theorem b3g {L:List S3} {i:Nat} (h:i<=L.length):sl Ar.std (eSt L) 0 (i:Int)=some (eSt (L.take i)):=by
 have:=a7a (c:=cA3) (l:=L.map sI) (i:=i) (by simpa using h);rw [this,<-List.map_take]
def a3J (l:List S3) (s:S3):Bool:=l.any fun u=>decide (u.1=s.1)
theorem b6J {l:List S3} (hl:l.length<=100) (s:S3):b7e Ar.std (eSt l) (s.1:Int) (s.2.1:Int) (s.2.2:Int)=some (a3J l s):=by
 have key:=a1H (step:=a7x Ar.std (eSt l) (s.1:Int) (s.2.1:Int) (s.2.2:Int)) l (fun u=>decide (u.1=s.1)) (fun i=>(Sum.inr (i:Int):Unit⊕Int)) (Sum.inl ()) (fun i a ha hi=>by
   unfold a7x;refine cnT (by rw [a0Q];simp;omega) (bt (a3h ha) (bt (v:=decide (a.1=s.1)) ?_ ?_))
   ·show some (decide ((a.1:Int)=(s.1:Int)))=_;congr 1;rw [decide_eq_decide];omega
   ·cases decide (a.1=s.1) with
    | true=>rfl
    | false=>exact cnF rfl (by rw [wS (by omega)];rfl)) (by
   unfold a7x;exact cnF (by rw [a0Q];simp) rfl)
 unfold b7e b9m a3J;rw [<-a3s (l:=l) (p:=fun u=>decide (u.1=s.1))];cases hf:l.findIdx? (fun u=>decide (u.1=s.1)) with
 | none=>rw [hf] at key;exact bt (v := -1) (bt key rfl) rfl
 | some i=>rw [hf] at key;exact bt (v:=(i:Int)) (bt key rfl) (by simp)
def a3B (x:Ax) (l:List S3) (i:Nat):Bool :=
 match l[i]?,l[(i+1)%l.length]? with
 | some s,some u=>cfX x s.1 s.2.2 u.1 u.2.1 && !a3J (l.take i) s
 | _,_=>false
def a2D (x:Ax) (l:List S3):Bool:=(List.range l.length).all (a3B x l)&&l.any (prB x)
theorem a9u {x:Ax} (hv:VX x) {l:List S3} (hl:l.length<=3) (hs : ∀ s∈l,a3K x s):b4O Ar.std (eA x) (eSt l)=some (a2D x l):=by
 have key:=a2C (step:=a4V Ar.std (eA x) (eSt l)) l.length (fun (b:Bool) i=>(b,(i:Int))) (fun i b=>b=(l.take i).any (prB x)/\(List.range i).all (a3B x l)=true) (fun i r=>(∃ m,r = .inr m)/\(List.range l.length).all (a3B x l)=false) (fun b => .inl b)
  (fun i b hi hR=>by
   obtain ⟨rfl,hg⟩:=hR;have hz:=zp1 hi;generalize l[i]=s at hz;have hj:(i+1)%l.length<l.length:=Nat.mod_lt _ (by omega);have hw:=zp1 hj;generalize l[(i+1)%l.length]=u at hw;have hsO:=hs s (List.mem_of_getElem? hz);have huO:=hs u (List.mem_of_getElem? hw);have er:Ar.std.rem (Ar.std.wrp .i64 (Ar.std.zadd (i:Int) 1)) (Ar.std.len (eSt l))=(((i+1)%l.length:Nat):Int):=by
    rw [wS (by omega),a0Q];rfl
   have hright:a3B x l i=(cfX x s.1 s.2.2 u.1 u.2.1 && !a3J (l.take i) s):=by unfold a3B;rw [hz,hw]
   have e1:((N84 Ar.std (s.1:Int) (s.2.1:Int) (s.2.2:Int)).bind fun (r58,r59) =>
    (N85 Ar.std (u.1:Int) (u.2.1:Int) (u.2.2:Int)).bind fun (r61,r62) =>
    (b3x Ar.std (eA x) r58 r59 r61 r62).bind fun r64 =>
    bif r64 then
     (sl Ar.std (eSt l) 0 (i:Int)).bind fun l66 =>
     (b7e Ar.std l66 (s.1:Int) (s.2.1:Int) (s.2.2:Int)).bind fun r73 =>
     some r73
    else
     some true)=some (!a3B x l i):=by
    refine bt rfl (bt rfl (bt (a9r hsO.2.1 huO.1) ?_));rw [hright];cases cfX x s.1 s.2.2 u.1 u.2.1 with
    | false=>rfl
    | true=>exact cnT rfl (bt (b3g (by omega)) (bt (b6J (by simp;omega) s) (by simp)))
   unfold a4V;dsimp only;cases hb:a3B x l i with
   | false =>
     rw [hb] at e1;refine .inr ⟨.inr ((s.1:Int),(s.2.1:Int),(s.2.2:Int)),⟨⟨_,rfl⟩,?_⟩,cnT (by rw [a0Q];simp;omega) (bt (a3h hz) (bnk (b8S (by omega)) ?_))⟩
     ·rw [Bool.eq_false_iff];intro h;rw [List.all_eq_true] at h;have:=h i (by simpa using hi);rw [hb] at this;cases this
     rw [er];exact bt (a3h hw) (bt e1 (cnT rfl rfl))
   | true =>
     rw [hb] at e1;refine .inl ⟨(l.take (i+1)).any (prB x),⟨rfl,?_⟩,cnT (by rw [a0Q];simp;omega) (bt (a3h hz) (bnk (b8S (by omega)) ?_))⟩
     ·rw [List.range_succ,List.all_append,hg];simp [hb]
     rw [er];refine bt (a3h hw) (bt e1 (cnF rfl (bt (v:=(l.take (i+1)).any (prB x)) ?_ (by rw [wS (by omega)]))));rw [a0i hz,List.any_append];cases (l.take i).any (prB x) with
     | true=>rfl
     | false=>exact cnF rfl (bt (b0f hv hsO.1 hsO.2.1) (by simp)))
  (fun b hb=>by
   unfold a4V;dsimp only;exact cnF (by rw [a0Q];simp) rfl) false ⟨by simp,by simp⟩
 unfold b4O a2D;rcases key with ⟨b,⟨rfl,hg⟩,h⟩ | ⟨i,r,_,⟨⟨m,rfl⟩,hg⟩,h⟩
 ·rw [List.take_length] at h;rw [hg,Bool.true_and];exact bt (show iter (a4V Ar.std (eA x) (eSt l)) (false,0)=_ from h) rfl
 rw [hg,Bool.false_and];exact bt (show iter (a4V Ar.std (eA x) (eSt l)) (false,0)=_ from h) rfl
def kS (s:S3):D := .agg [.int .i64 (s.1:Int),.int .i64 (s.2.1:Int),.int .i64 (s.2.2:Int)]
theorem b5D {s u:S3} (h:kS s=kS u):s=u:=by
 unfold kS at h;simp only [D.agg.injEq,List.cons.injEq,D.int.injEq,true_and,and_true] at h;obtain ⟨h1,h2,h3⟩:=h;obtain ⟨a,b,c⟩:=s;obtain ⟨a',b',c'⟩:=u;simp only [Prod.mk.injEq] at *;omega
def mK (l:List S3):List (D×D):=l.map fun s=>(kS s,.bool true)
open Classical in
noncomputable def b6K (l:List S3) (s:S3):List S3:=if s∈l then l else l++[s]
theorem b6L (l:List S3) (s:S3):Am.mput (mK l) (kS s) (.bool true)=mK (b6K l s):=by
 induction l with
 | nil=>simp [mK,Am.mput,b6K]
 | cons u l ih =>
   unfold mK at ih ⊢;simp only [List.map_cons,Am.mput];by_cases h:kS u=kS s
   ·rw [if_pos h];have:=b5D h;subst this;simp [b6K]
   rw [if_neg h,ih];have hus:s≠u:=by rintro rfl;exact h rfl
   unfold b6K;by_cases hm:s∈l
   ·simp [hm]
   simp [hm,hus]
theorem b6M (l:List S3) (s:S3):Am.mget (mK l) (kS s)=if s∈l then some (.bool true) else none:=by
 induction l with
 | nil=>rfl
 | cons u l ih =>
   unfold mK at ih ⊢;simp only [List.map_cons,Am.mget];by_cases h:kS u=kS s
   ·rw [if_pos h];have:=b5D h;subst this;simp
   rw [if_neg h,ih];have hus:s≠u:=by rintro rfl;exact h rfl
   by_cases hm:s∈l <;> simp [hm,hus]
theorem b4A {l:List S3} {s u:S3}:u∈b6K l s↔u∈l\/u=s:=by
 unfold b6K;split
 ·rename_i h;constructor
  ·exact .inl
  rintro (h' | rfl)
  ·exact h'
  exact h
 simp
theorem b0i {l:List S3} (hl:l.length<=3) (f:List S3) : ∃ f':List S3,(∀ u,u∈f'↔u∈f\/u∈l)/\iter (a2G Ar.std (eSt l)) (0,mK f)=some (mK f'):=by
 have key:=a0D (step:=a2G Ar.std (eSt l)) l.length (fun (f':List S3) (i:Nat)=>((i:Int),mK f')) (fun i f' => ∀ u,u∈f'↔u∈f\/u∈l.take i) (fun f'=>mK f')
  (fun i f' hi hR=>by
   have hz:=zp1 hi;generalize l[i]=s at hz;refine ⟨b6K f' s,fun u => ?_,?_⟩
   ·rw [b4A,hR,a0i hz];simp only [List.mem_append,List.mem_singleton];exact or_assoc
   unfold a2G;dsimp only;refine cnT (by rw [a0Q];simp;omega) (bt (a3h hz) ?_);rw [wS (by omega)];have:=b6L f' s;show some (Sum.inl (_,Am.mput (mK f') (kS s) (.bool true)))=_;rw [this])
  (fun f' hR=>by
   unfold a2G;exact cnF (by rw [a0Q];simp) rfl) f (fun u=>by simp)
 obtain ⟨f',h1,h2⟩:=key;rw [List.take_length] at h1;exact ⟨f',h1,h2⟩
theorem b3h {x:Ax} {l:List S3} (h:a2D x l=true) {i:Nat} {s u:S3} (hs:l[i]?=some s) (hu:l[i+1]?=some u):cfX x s.1 s.2.2 u.1 u.2.1=true:=by
 have hi:i+1<l.length:=(zp2.1 hu).1;unfold a2D at h;rw [zp4,List.all_eq_true] at h;have:=h.1 i (by simp;omega);unfold a3B at this;rw [hs,Nat.mod_eq_of_lt hi,hu] at this;rw [zp4] at this;exact this.1
def Found (x:Ax) (l f:List S3):Prop := ∀ r:List S3,(∀ s∈r,a3K x s)->2<=(l++r).length->(l++r).length<=3->a2D x (l++r)=true -> ∀ s∈l++r,s∈f
theorem Found.mono {x:Ax} {l f f':List S3} (h:Found x l f) (hs : ∀ s∈f,s∈f'):Found x l f':=fun r h1 h2 h3 h4 s hm=>hs s (h r h1 h2 h3 h4 s hm)
theorem b4B {x:Ax} (hv:VX x) {St:List S3} (hSt : ∀ s,s∈St↔a3K x s) (hSl:St.length<=48) :
  ∀ (k n:Nat) (l f:List S3),l.length+k=3->(∀ s∈l,a3K x s) -> ∃ f':List S3,(∀ s∈f,s∈f')/\Found x l f'/\a5V Ar.std (n+k+1) (eSt l) (mK f) (eA x) (eSt St)=some (true,mK f'):=by
 intro k
 induction k with
 | zero =>
   intro n l f hk hl;have e3:l.length=3:=by omega
   show ∃ f',_/\_/\a7y Ar.std (a5V Ar.std n) (eSt l) (mK f) (eA x) (eSt St)=_;obtain ⟨f1,g1,g2⟩:=b0i (l:=l) (by omega) f;have e82:=a9u hv (l:=l) (by omega) hl;have el:Ar.std.len (eSt l)=3:=by rw [a0Q,e3];rfl
   cases hc:a2D x l with
   | true =>
     rw [hc] at e82;refine ⟨f1,fun s hs=>(g1 s).2 (.inl hs),fun r h1 h2 h3 h4 s hm => ?_,?_⟩
     ·have hr:r=[]:=List.eq_nil_of_length_eq_zero (by simp at h3;omega);subst hr;simp at hm;exact (g1 s).2 (.inr hm)
     unfold a7y;refine bt (v:=mK f1) (cnT (by rw [el];rfl) (bt e82 (cnT rfl (bt (bt g2 rfl) rfl)))) (cnT (by rw [el];rfl) rfl)
   | false =>
     rw [hc] at e82;refine ⟨f,fun s hs=>hs,fun r h1 h2 h3 h4 s hm => ?_,?_⟩
     ·have hr:r=[]:=List.eq_nil_of_length_eq_zero (by simp at h3;omega);subst hr;simp at h4;rw [hc] at h4;cases h4
     unfold a7y;refine bt (v:=mK f) (cnT (by rw [el];rfl) (bt e82 (cnF rfl rfl))) (cnT (by rw [el];rfl) rfl)
 | succ k ih =>
   intro n l f hk hl;have hlen:l.length<=2:=by omega
   have el:Ar.std.len (eSt l)=(l.length:Int):=a0Q l;show ∃ f',_/\_/\a7y Ar.std (a5V Ar.std (n+k+1)) (eSt l) (mK f) (eA x) (eSt St)=_

   obtain ⟨f1,h1,h2,h3⟩ : ∃ f1:List S3,(∀ s∈f,s∈f1)/\(2<=l.length->a2D x l=true -> ∀ s∈l,s∈f1) /\
     ((bif (Ar.std.zle 2 (Ar.std.len (eSt l))) then
       (b4O Ar.std (eA x) (eSt l)).bind fun r7 =>
       bif r7 then
        (
         (iter (a2G Ar.std (eSt l)) (0,mK f)).bind (fun v26 =>
         some v26)).bind (fun v29 =>
        some v29)
       else
        some (mK f)
     else
      some (mK f):Option (List (D×D))))=some (mK f1):=by
    by_cases hl2:2<=l.length
    ·obtain ⟨f1,g1,g2⟩:=b0i (l:=l) (by omega) f;have e82:=a9u hv (l:=l) (by omega) hl;cases hc:a2D x l with
     | true =>
       rw [hc] at e82;exact ⟨f1,fun s hs=>(g1 s).2 (.inl hs),fun _ _ s hs=>(g1 s).2 (.inr hs),cnT (by rw [el];simp;omega) (bt e82 (cnT rfl (bt (bt g2 rfl) rfl)))⟩
     | false =>
       rw [hc] at e82;exact ⟨f,fun s hs=>hs,(fun _ h=>by cases h),cnT (by rw [el];simp;omega) (bt e82 (cnF rfl rfl))⟩
    exact ⟨f,fun s hs=>hs,fun h=>absurd h hl2,cnF (by rw [el];simp;omega) rfl⟩

   have key:=a0D (step:=a4W Ar.std (eSt l) (eA x) (eSt St) (a5V Ar.std (n+k+1))) St.length (fun (g:List S3) (i:Nat)=>((i:Int),mK g))
    (fun i g=>(∀ s∈f1,s∈g) /\ ∀ s∈St.take i,(∀ u,l.getLast?=some u->cfX x u.1 u.2.2 s.1 s.2.1=true)->Found x (l++[s]) g) (fun g=>(Sum.inl (mK g):List (D×D)⊕List (D×D)))
    (fun i g hi hR=>by
     obtain ⟨hR1,hR2⟩:=hR;have hz:=zp1 hi;generalize St[i]=s at hz;have hsO:a3K x s:=(hSt s).1 (List.mem_of_getElem? hz)

     have hpass : ∃ b:Bool,((bif (Ar.std.zlt 0 (Ar.std.len (eSt l))) then
       (gt Ar.std (cG (lc (cI .i64) (lc (cI .i64) (l1 (cI .i64))))) (eSt l) (Ar.std.wrp .i64 (Ar.std.zsub (Ar.std.len (eSt l)) 1))).bind fun (a88,a89,a90) =>
       (N84 Ar.std a88 a89 a90).bind fun (r95,r96) =>
       (N85 Ar.std (s.1:Int) (s.2.1:Int) (s.2.2:Int)).bind fun (r98,r99) =>
       (b3x Ar.std (eA x) r95 r96 r98 r99).bind fun r101 =>
       some (!r101)
      else
       some false:Option (Bool)))=some b/\(b=false ↔ ∀ u,l.getLast?=some u->cfX x u.1 u.2.2 s.1 s.2.1=true):=by
      by_cases hl0:0<l.length
      ·have hlast:l[l.length-1]?=some (l[l.length-1]'(by omega)):=zp1 _;have hgl:l.getLast?=some (l[l.length-1]'(by omega)):=by rw [List.getLast?_eq_getElem?];exact hlast
       generalize l[l.length-1]'(by omega)=u at hlast hgl;have huO:=hl u (List.mem_of_getElem? hlast);refine ⟨!cfX x u.1 u.2.2 s.1 s.2.1,cnT (by rw [el];simp;omega) ?_,?_⟩
       ·have ei:Ar.std.wrp .i64 (Ar.std.zsub (Ar.std.len (eSt l)) 1)=((l.length-1:Nat):Int):=by
         rw [el];simp only [a0m,a0J];rw [a3v _ (by omega) (by omega)];omega
        rw [ei];exact bt (a3h hlast) (bt rfl (bt rfl (bt (a9r huO.2.1 hsO.1) rfl)))
       rw [hgl];simp
      have hln:l=[]:=List.eq_nil_of_length_eq_zero (by omega);subst hln;exact ⟨false,cnF (by rw [el];simp) rfl,by simp⟩
     obtain ⟨b,hb1,hb2⟩:=hpass
     have start : ∀ {r},(bif b then (fun (v121:List (D×D))=>some (Sum.inl ((Ar.std.wrp .i64 (Ar.std.zadd (i:Int) 1)),v121):(Int×List (D×D))⊕(List (D×D)⊕List (D×D)))) (mK g)
      else
       (sl Ar.std (eSt l) 0 (Ar.std.len (eSt l))).bind fun l105 =>
       (ck (Ar.std.zeq (Ar.std.len (eSt l)) (Ar.std.len (eSt l)))).bind fun _ =>
       (ap Ar.std l105 [(.agg [(.int .i64 (s.1:Int)),(.int .i64 (s.2.1:Int)),(.int .i64 (s.2.2:Int))])]).bind fun l113 =>
       (a5V Ar.std (n+k+1) l113 (mK g) (eA x) (eSt St)).bind fun (r118,r119) =>
       bif r118 then
        (fun (v121:List (D×D))=>some (Sum.inl ((Ar.std.wrp .i64 (Ar.std.zadd (i:Int) 1)),v121):(Int×List (D×D))⊕(List (D×D)⊕List (D×D)))) r119
       else
        some (.inr (.inr r119)))=r->a4W Ar.std (eSt l) (eA x) (eSt St) (a5V Ar.std (n+k+1)) ((i:Int),mK g)=r:=by
      intro r hr;unfold a4W jn;exact cnT (by rw [a0Q];simp;omega) (bt (a3h hz) (bt hb1 hr))
     cases b with
     | true =>
       refine ⟨g,⟨hR1,fun s' hs' hc => ?_⟩,start (cnT rfl (by rw [wS (by omega)]))⟩;rw [a0i hz] at hs';rcases List.mem_append.1 hs' with h | h
       ·exact hR2 s' h hc
       simp at h;subst h;have:=hb2.2 hc;cases this
     | false =>
       obtain ⟨g',q1,q2,q3⟩:=ih n (l++[s]) g (by simp;omega) (fun u hu=>by
        rcases List.mem_append.1 hu with h | h
        ·exact hl u h
        simp at h;subst h;exact hsO)
       refine ⟨g',⟨fun u hu=>q1 u (hR1 u hu),fun s' hs' hc => ?_⟩,start (cnF rfl ?_)⟩
       ·rw [a0i hz] at hs';rcases List.mem_append.1 hs' with h | h
        ·exact (hR2 s' h hc).mono q1
        simp at h;subst h;exact q2
       have e1:sl Ar.std (eSt l) 0 (Ar.std.len (eSt l))=some (eSt l):=by
        rw [el,b3g (Nat.le_refl _),List.take_length]
       refine bt e1 (bck (by simp) (bt (b0g s (by omega)) (bt q3 (cnT rfl ?_))));rw [wS (by omega)])
    (fun g hR=>by
     unfold a4W;exact cnF (by rw [a0Q];simp) rfl) f1 ⟨fun s hs=>hs,fun s hs=>by simp at hs⟩
   obtain ⟨g,⟨hg1,hg2⟩,hit⟩:=key;rw [List.take_length] at hg2;refine ⟨g,fun s hs=>hg1 s (h1 s hs),fun r hr1 hr2 hr3 hr4 => ?_,?_⟩
   ·cases r with
    | nil =>
      simp only [List.append_nil] at hr2 hr4 ⊢;intro s hs;exact hg1 s (h2 hr2 hr4 s hs)
    | cons s r =>
      have hsS:s∈St:=(hSt s).2 (hr1 s (by simp));have e2:l++s::r=(l++[s])++r:=by simp
      rw [e2] at hr2 hr3 hr4 ⊢;refine hg2 s hsS (fun u hu => ?_) r (fun s' hs'=>hr1 s' (by simp [hs'])) hr2 hr3 hr4;rw [List.getLast?_eq_getElem?] at hu;have hl1:0<l.length:=by
       rcases Nat.eq_zero_or_pos l.length with h | h
       ·rw [List.getElem?_eq_none (by omega)] at hu;cases hu
       exact h
      refine b3h hr4 (i:=l.length-1) ?_ ?_
      ·rw [List.append_assoc,zp7 (by omega)];exact hu
      rw [show l.length-1+1=l.length by omega,List.append_assoc,zp8 (Nat.le_refl _)];simp
   unfold a7y;refine bt h3 (cnF ?_ (bt (show iter (a4W Ar.std (eSt l) (eA x) (eSt St) (a5V Ar.std (n+k+1))) (0,mK f1)=_ from hit) rfl));rw [el];show decide ((l.length:Int)=3)=false;rw [decide_eq_false_iff_not];omega
theorem b6N {x:Ax} (hv:VX x) : ∃ f:List S3,Found x [] f/\b7p Ar.std (eA x) []=some (mK f):=by
 obtain ⟨St,hSl,hSt,e⟩:=b3e hv;obtain ⟨f,_,h2,h3⟩:=b4B hv hSt hSl 3 999996 [] [] rfl (by simp);refine ⟨f,h2,?_⟩;unfold b7p;refine bt e (bt (v:=(true,mK f)) ?_ rfl);unfold b9U;rw [b2s];exact h3
def iS (a:Ac):S3:=(a.1.toNat,a.2.1.toNat,a.2.2.toNat)
theorem b6O (s:S3):iS (sI s)=s:=by unfold iS sI;simp
theorem c1f (l:List Ac):scalars (eT l)=true:=by
 unfold scalars eT enc;rw [List.all_eq_true];intro x hx;obtain ⟨y,_,rfl⟩:=List.mem_map.1 hx
 rfl
theorem b8T (l:List Ac) {n:Nat} (h:n<=l.length):fz Ar.std (eT l) 0 (n:Int)=some (eT (l.take n)):=by
 unfold fz;have hz:Ar.std.zle (Ar.std.zadd 0 (n:Int)) (Ar.std.len (eT l))=true:=by simp;omega
 rw [hz,cond_true];simp only [a0w,b2v,Int.zero_add,Int.toNat_zero,List.drop_zero,Nat.sub_zero,Int.toNat_natCast];unfold eT enc;rw [<-List.map_take]
theorem b0j (L:List S3) (p:S3->Bool):(L.map sI).filter (fun a=>p (iS a))=(L.filter p).map sI:=by
 rw [List.filter_map];have:((fun a=>p (iS a))∘sI)=p:=by funext s;simp [b6O]
 rw [this]
theorem b8U (f:List S3) (s:S3):N54 Ar.std (s.1:Int) (s.2.1:Int) (s.2.2:Int) (mK f)=some (!decide (s∈f)):=by
 have e:lk Ar.std cB (mK f) (.agg [.int .i64 (s.1:Int),.int .i64 (s.2.1:Int),.int .i64 (s.2.2:Int)])=some (if s∈f then some true else none):=by
  have:Ar.std.mget (mK f) (kS s)=if s∈f then some (.bool true) else none:=b6M f s
  unfold lk;rw [show (D.agg [.int .i64 (s.1:Int),.int .i64 (s.2.1:Int),.int .i64 (s.2.2:Int)])=kS s from rfl,this];by_cases h:s∈f
  ·rw [if_pos h,if_pos h];rfl
  rw [if_neg h,if_neg h];rfl
 unfold N54;by_cases h:s∈f
 ·rw [if_pos h] at e;exact bt (v:=false) (bt e rfl) (by simp [h])
 rw [if_neg h] at e;exact bt (v:=true) (bt e rfl) (by simp [h])
theorem b6P {x:Ax} (hv:VX x) (m:List (D×D)) :
  (∃ (L:List S3) (X:List Ac),(∀ s,s∈L↔a3K x s/\prB x s=true)/\L.length<=48/\L.length<=X.length/\X.take L.length=L.map sI/\b3C Ar.std (eA x) m=some (.inl (0,(L.length:Int),eT X))) \/
  ((∀ s,¬ (a3K x s/\prB x s=true))/\b3C Ar.std (eA x) m=some (.inr [])):=by
 obtain ⟨L,hL,hm,e⟩:=b3e hv;by_cases h0:0<L.length
 ·left;have hX:(L.map sI).length=L.length:=by simp
  obtain ⟨X',q1,q2,q3⟩:=b3f (X:=L.map sI) (n:=L.length) (by simp) (by omega) (pred:=fun a b c=>b3B Ar.std a b c m (eA x)) (keep:=fun a=>prB x (iS a)) (fun i a hi ha=>by
   rw [List.getElem?_map] at ha;obtain ⟨s,hs,rfl⟩:=Option.map_eq_some_iff.1 ha;have hsO:=(hm s).1 (List.mem_of_getElem? hs);simp only [b6O];show b3B Ar.std (s.1:Int) (s.2.1:Int) (s.2.2:Int) m (eA x)=_;unfold b3B;exact bt (b0f hv hsO.1 hsO.2.1) rfl)
  have htk:(L.map sI).take L.length=L.map sI:=List.take_of_length_le (by simp);rw [htk,b0j] at q1 q2 q3;rw [List.length_map] at q1 q2 q3;refine ⟨L.filter (prB x),X',fun s => ?_,Nat.le_trans (List.length_filter_le _ _) (by omega),q3,q2,?_⟩
  ·rw [List.mem_filter,hm]
  unfold b3C;refine bt e (cnT (by rw [a0Q];simp;omega) (bck (c1f _) ?_));rw [a0Q];exact bt (show b9n Ar.std 0 (L.length:Int) m (eA x) (eSt L)=_ from q1) rfl
 right;have hL0:L=[]:=List.eq_nil_of_length_eq_zero (by omega);subst hL0;refine ⟨fun s hs=>by have:=(hm s).2 hs.1;simp at this,?_⟩;unfold b3C;refine bt e (cnF rfl (bt (v:=[]) ?_ rfl));unfold b9p b9o;refine bt (v := -1) (bt (v := .inl ()) (a0W ?_) rfl) rfl;unfold b1l;exact cnF rfl rfl
theorem b8V {x:Ax} (hv:VX x) : ∃ R:List S3,R.length<=48/\N26 Ar.std (eA x)=some (eSt R) /\
  ∀ (l:List S3) (s:S3),(∀ u∈l,a3K x u)->2<=l.length->l.length<=3->a2D x l=true->s∈l->prB x s=true->s∈R:=by
 obtain ⟨f,hf,e⟩:=b6N hv;have hfound : ∀ (l:List S3) (s:S3),(∀ u∈l,a3K x u)->2<=l.length->l.length<=3->a2D x l=true->s∈l->s∈f:=fun l s h1 h2 h3 h4 h5=>hf l h1 (by simpa using h2) (by simpa using h3) (by simpa using h4) s (by simpa using h5);rcases b6P hv (mK f) with ⟨L,X,hL,hl48,hlX,htk,e2⟩ | ⟨hno,e2⟩
 ·have hget : ∀ (i:Nat) (a:Ac),i<L.length->X[i]?=some a -> ∃ s,s∈L/\a=sI s:=by
   intro i a hi ha;have h:(X.take L.length)[i]?=some a:=by rw [List.getElem?_take_of_lt hi];exact ha
   rw [htk,List.getElem?_map] at h;obtain ⟨s,hs,rfl⟩:=Option.map_eq_some_iff.1 h;exact ⟨s,List.mem_of_getElem? hs,rfl⟩
  obtain ⟨X',q1,q2,q3⟩:=b3f (X:=X) (n:=L.length) hlX (by omega) (pred:=fun a b c=>N54 Ar.std a b c (mK f)) (keep:=fun a=>decide (iS a∈f)) (fun i a hi ha=>by
   obtain ⟨s,hs,rfl⟩:=hget i a hi ha;simp only [b6O];exact b8U f s)
  rw [htk,b0j L (fun s=>decide (s∈f))] at q1 q2 q3;rw [List.length_map] at q1 q2 q3;refine ⟨L.filter (fun s=>decide (s∈f)),Nat.le_trans (List.length_filter_le _ _) hl48,?_,fun l s h1 h2 h3 h4 h5 h6 => ?_⟩
  ·unfold N26;refine bt e (bt e2 ?_);rw [Sum.elim_inl];refine bt (show b9q Ar.std 0 (L.length:Int) (mK f) (eT X)=_ from q1) (bt (b8T X' q3) ?_);rw [q2]
  rw [List.mem_filter];exact ⟨(hL s).2 ⟨h1 s h5,h6⟩,by simpa using hfound l s h1 h2 h3 h4 h5⟩
 refine ⟨[],by simp,?_,fun l s h1 h2 h3 h4 h5 h6=>absurd ⟨h1 s h5,h6⟩ (hno s)⟩;unfold N26;refine bt e (bt e2 ?_);rw [Sum.elim_inr];refine bt (v:=[]) ?_ rfl;unfold b9s b9r;refine bt (v := -1) (bt (v := .inl ()) (a0W ?_) rfl) rfl;unfold b1m;exact cnF rfl rfl
def fnc:Ac:=(3,0,0)
def wv (q:Nat->Bool):Nat->List Ac->List Ac
 | _,[]=>[]
 | i,a::l=>a::(if q i then fnc::wv q (i+1) l else wv q (i+1) l)
def psW (q:Nat->Bool) (i:Nat):Nat->Nat
 | 0=>0
 | b+1=>psW q i b+1+(if q (i+b) then 1 else 0)
theorem a6B {q:Nat->Bool} {i b c:Nat} (h:b<c):psW q i b<psW q i c:=by
 induction c with
 | zero=>omega
 | succ c ih =>
   have e:psW q i (c+1)=psW q i c+1+(if q (i+c) then 1 else 0):=rfl
   rcases Nat.lt_or_ge b c with hb | hb
   ·have:=ih hb;omega
   have:b=c:=by omega
   subst this;omega
theorem b6Q {q:Nat->Bool} {i b c:Nat} (h:psW q i b=psW q i c):b=c:=by
 rcases Nat.lt_trichotomy b c with hb | hb | hb
 ·have:=a6B (q:=q) (i:=i) hb;omega
 ·exact hb
 have:=a6B (q:=q) (i:=i) hb;omega
theorem a4c (q:Nat->Bool) (i b:Nat):psW q i (b+1)=1+(if q i then 1 else 0)+psW q (i+1) b:=by
 induction b with
 | zero=>simp [psW]
 | succ b ih =>
   rw [show psW q i (b+1+1)=psW q i (b+1)+1+(if q (i+(b+1)) then 1 else 0) from rfl,ih]
   rw [show psW q (i+1) (b+1)=psW q (i+1) b+1+(if q (i+1+b) then 1 else 0) from rfl]
   rw [show i+(b+1)=i+1+b by omega];omega
theorem b6R (q:Nat->Bool) : ∀ (l:List Ac) (i b:Nat),b<l.length->(wv q i l)[psW q i b]?=l[b]?/\(q (i+b)=true->(wv q i l)[psW q i b+1]?=some fnc)
 | [],_,_,h=>by simp at h
 | a::l,i,0,_=>by
   refine ⟨by simp [psW,wv],fun h => ?_⟩;rw [Nat.add_zero] at h;simp [psW,wv,h]
 | a::l,i,b+1,h=>by
   obtain ⟨h1,h2⟩:=b6R q l (i+1) b (by simpa using h);rw [a4c,show i+(b+1)=i+1+b by omega];cases hq:q i with
   | true =>
     simp only [if_true,wv,hq];rw [show 1+1+psW q (i+1) b=psW q (i+1) b+1+1 by omega];simp only [List.getElem?_cons_succ];exact ⟨h1,h2⟩
   | false =>
     simp only [wv,hq,Bool.false_eq_true,if_false];rw [show 1+0+psW q (i+1) b=psW q (i+1) b+1 by omega];simp only [List.getElem?_cons_succ];exact ⟨h1,h2⟩
theorem b3i (q:Nat->Bool) : ∀ (l:List Ac) (i j:Nat) (x:Ac),(wv q i l)[j]?=some x->x.1≠3 -> ∃ b,b<l.length/\j=psW q i b
 | [],_,_,_,h,_=>by simp [wv] at h
 | a::l,i,0,x,h,_=>⟨0,by simp,rfl⟩
 | a::l,i,j+1,x,h,hx=>by
   cases hq:q i with
   | true =>
     simp only [wv,hq,if_true,List.getElem?_cons_succ] at h;cases j with
     | zero=>simp at h;subst h;exact absurd rfl hx
     | succ j =>
       simp only [List.getElem?_cons_succ] at h;obtain ⟨b,h1,h2⟩:=b3i q l (i+1) j x h hx;exact ⟨b+1,by simpa using h1,by rw [a4c,hq];simp;omega⟩
   | false =>
     simp only [wv,hq,Bool.false_eq_true,if_false,List.getElem?_cons_succ] at h;obtain ⟨b,h1,h2⟩:=b3i q l (i+1) j x h hx;exact ⟨b+1,by simpa using h1,by rw [a4c,hq];simp;omega⟩
structure Mk (x:Ax) (q:Nat->Nat->Bool) (P:Pg):Prop where
 len:P.length=x.length
 thd : ∀ t,t<x.length -> ∃ A:List Ac,A.length=(thX x t).length/\thr P t=wv (q t) 0 A /\ ∀ (a:Nat) (c:Ac),A[a]?=some c->c.1=(if (acX x t a).2 then 2 else 1)/\c.2.1=(acX x t a).1/\a7t c=true
section
variable {x:Ax} {q:Nat->Nat->Bool} {P:Pg} (hM:Mk x q P)
include hM
theorem Mk.acc {t j:Nat} (h:inP P (t,j)) (h3:(acA P (t,j)).1≠3) : ∃ a,a9q x t a/\j=psW (q t) 0 a/\(acA P (t,j)).1=(if (acX x t a).2 then 2 else 1)/\(acA P (t,j)).2.1=(acX x t a).1:=by
 obtain ⟨h1,h2⟩:=h;dsimp only at h1 h2;rw [hM.len] at h1;obtain ⟨A,e1,e2,e3⟩:=hM.thd t h1;have hx:(thr P t)[j]?=some (aAt (thr P t) j):=a2t h2;rw [e2] at hx;obtain ⟨a,ha,rfl⟩:=b3i (q t) A 0 j _ hx (by rw [<-e2];exact h3);have hw:=(b6R (q t) A 0 a ha).1;rw [hw] at hx;obtain ⟨g1,g2,_⟩:=e3 a _ hx;refine ⟨a,⟨h1,by omega⟩,rfl,?_,?_⟩
 ·show (aAt (thr P t) _).1=_;rw [e2];exact g1
 show (aAt (thr P t) _).2.1=_;rw [e2];exact g2
theorem Mk.stn {t a b:Nat} (h:stn P t a b) : ∃ α β,a3K x (t,α,β)/\a=psW (q t) 0 α/\b=psW (q t) 0 β/\(a<b->prB x (t,α,β)=true) /\
  (acA P (t,a)).1=(if (acX x t α).2 then 2 else 1)/\(acA P (t,a)).2.1=(acX x t α).1/\(acA P (t,b)).1=(if (acX x t β).2 then 2 else 1)/\(acA P (t,b)).2.1=(acX x t β).1:=by
 obtain ⟨h1,h2,h3,h4,h5⟩:=h;obtain ⟨α,o1,p1,k1,v1⟩:=hM.acc h1 h3;obtain ⟨β,o2,p2,k2,v2⟩:=hM.acc h2 h4;refine ⟨α,β,⟨o1,o2,?_⟩,p1,p2,fun hlt => ?_,k1,v1,k2,v2⟩
 ·rcases h5 with h5 | ⟨h5,h6⟩
  ·left;show α=β;rw [p1,p2] at h5;exact b6Q h5
  right;show α<β/\_;refine ⟨?_,by rw [<-v1,<-v2];exact h6⟩;rcases Nat.lt_trichotomy α β with g | g | g
  ·exact g
  ·subst g;omega
  have:=a6B (q:=q t) (i:=0) g;omega
 rcases h5 with h5 | ⟨_,h6⟩
 ·omega
 unfold prB;have hab:α<β:=by
  rcases Nat.lt_trichotomy α β with g | g | g
  ·exact g
  ·subst g;omega
  have:=a6B (q:=q t) (i:=0) g;omega
 have hne:(acX x t α).1≠(acX x t β).1:=by rw [<-v1,<-v2];exact h6
 simp [hab,hne]
theorem Mk.held {t α β g:Nat} (ht:t<x.length) (hβ:β<(thX x t).length) (h1:α<=g) (h2:g<β) (hq:q t g=true):a8v P t (psW (q t) 0 α) (psW (q t) 0 β):=by
 obtain ⟨A,e1,e2,_⟩:=hM.thd t ht;have hw:=(b6R (q t) A 0 g (by omega)).2 (by rw [Nat.zero_add];exact hq);refine ⟨psW (q t) 0 g+1,?_,?_,?_⟩
 ·rcases Nat.lt_or_ge α g with h | h
  ·have:=a6B (q:=q t) (i:=0) h;omega
  have:α=g:=by omega
  subst this;omega
 ·have e:psW (q t) 0 (g+1)=psW (q t) 0 g+1+(if q t (0+g) then 1 else 0):=rfl
  rw [Nat.zero_add,hq] at e;simp at e;rcases Nat.lt_or_ge (g+1) β with h | h
  ·have:=a6B (q:=q t) (i:=0) h;omega
  have:g+1=β:=by omega
  rw [<-this];omega
 show (aAt (Go.Am.thr P t) _).1=3;rw [e2];have:aAt (wv (q t) 0 A) (psW (q t) 0 g+1)=fnc:=by
  unfold aAt;rw [List.getD_eq_getElem?_getD,hw];rfl
 rw [this];rfl
omit hM in
theorem a8y {t b u c β γ:Nat} (h:cfl P (t,b) (u,c)) (k1:(acA P (t,b)).1=(if (acX x t β).2 then 2 else 1)) (v1:(acA P (t,b)).2.1=(acX x t β).1) (k2:(acA P (u,c)).1=(if (acX x u γ).2 then 2 else 1)) (v2:(acA P (u,c)).2.1=(acX x u γ).1) :
  cfX x t β u γ=true/\t≠u:=by
 obtain ⟨h1,h2⟩:=h;have htu:t≠u:=h1;refine ⟨?_,htu⟩;unfold a1w at h2;simp only [not_or,not_and] at h2;obtain ⟨_,_,h3,h4⟩:=h2;have hv:(acX x t β).1=(acX x u γ).1:=by
  rw [<-v1,<-v2];exact Classical.byContradiction h3
 unfold cfX;have hw:((acX x t β).2||(acX x u γ).2)=true:=by
  cases e1:(acX x t β).2 with
  | true=>rfl
  | false =>
    cases e2:(acX x u γ).2 with
    | true=>rfl
    | false =>
      rw [e1] at k1;rw [e2] at k2;simp at k1 k2;exact absurd (h4 (by rw [k1];decide)) (by rw [k2];decide)
 rw [hw];simp [htu,hv]
omit hM in
theorem c1g {s u:S3} (h1:cfX x s.1 s.2.2 u.1 u.2.1=true) (h2:cfX x u.1 u.2.2 s.1 s.2.1=true) (hne:s.1≠u.1) (hp:prB x s=true\/prB x u=true):a2D x [s,u]=true:=by
 have e1:a3J [] s=false:=rfl;have e2:a3J [s] u=false:=by unfold a3J;simp [hne]
 unfold a2D;rw [show (List.range [s,u].length)=[0,1] from rfl];simp only [List.all_cons,List.all_nil,Bool.and_true,zp4];refine ⟨⟨?_,?_⟩,?_⟩
 ·show (cfX x s.1 s.2.2 u.1 u.2.1 && !a3J [] s)=true;rw [h1,e1];rfl
 ·simp [a3B,h2,e2]
 rcases hp with h | h <;> simp [h]
omit hM in
theorem c1h {s u w:S3} (h1:cfX x s.1 s.2.2 u.1 u.2.1=true) (h2:cfX x u.1 u.2.2 w.1 w.2.1=true) (h3:cfX x w.1 w.2.2 s.1 s.2.1=true) (n1:s.1≠u.1) (n2:u.1≠w.1) (n3:s.1≠w.1) (hp:prB x s=true\/prB x u=true\/prB x w=true):a2D x [s,u,w]=true:=by
 have e1:a3J [] s=false:=rfl;have e2:a3J [s] u=false:=by unfold a3J;simp [n1]
 have e3:a3J [s,u] w=false:=by unfold a3J;simp [n2,n3]
 unfold a2D;rw [show (List.range [s,u,w].length)=[0,1,2] from rfl];simp only [List.all_cons,List.all_nil,Bool.and_true,zp4];refine ⟨⟨?_,?_,?_⟩,?_⟩
 ·show (cfX x s.1 s.2.2 u.1 u.2.1 && !a3J [] s)=true;rw [h1,e1];rfl
 ·show (cfX x u.1 u.2.2 w.1 w.2.1 && !a3J [s] u)=true;rw [h2,e2];rfl
 ·simp [a3B,h3,e3]
 rcases hp with h | h | h <;> simp [h]
theorem Mk.nc (hh : ∀ (l:List S3) (s:S3),(∀ u∈l,a3K x u)->2<=l.length->l.length<=3->a2D x l=true->s∈l->prB x s=true -> ∃ g,s.2.1<=g/\g<s.2.2/\q s.1 g=true):NC P:=by
 have hold : ∀ (l:List S3) (t α β:Nat),(∀ u∈l,a3K x u)->2<=l.length->l.length<=3->a2D x l=true->(t,α,β)∈l->prB x (t,α,β)=true->a8v P t (psW (q t) 0 α) (psW (q t) 0 β):=by
  intro l t α β h1 h2 h3 h4 h5 h6;obtain ⟨g,g1,g2,g3⟩:=hh l _ h1 h2 h3 h4 h5 h6;have hO:=h1 _ h5;exact hM.held hO.1.1 hO.2.1.2 g1 g2 g3
 constructor
 ·intro t a b u c d s1 s2 c1 c2;obtain ⟨α,β,o1,rfl,rfl,pr1,ka,va,kb,vb⟩:=hM.stn s1;obtain ⟨γ,δ,o2,rfl,rfl,pr2,kc,vc,kd,vd⟩:=hM.stn s2;obtain ⟨f1,n1⟩:=a8y (x:=x) c1 kb vb kc vc;obtain ⟨f2,_⟩:=a8y (x:=x) c2 kd vd ka va;have hall : ∀ v∈[(t,α,β),(u,γ,δ)],a3K x v:=by
   intro v hv;simp only [List.mem_cons,List.not_mem_nil,or_false] at hv;rcases hv with rfl | rfl
   ·exact o1
   exact o2
  have hc:prB x (t,α,β)=true\/prB x (u,γ,δ)=true->a2D x [(t,α,β),(u,γ,δ)]=true:=c1g f1 f2 n1;exact ⟨fun h=>hold _ t α β hall (by simp) (by simp) (hc (.inl (pr1 h))) (by simp) (pr1 h),fun h=>hold _ u γ δ hall (by simp) (by simp) (hc (.inr (pr2 h))) (by simp) (pr2 h)⟩
 intro t a b u c d v e f htv s1 s2 s3 c1 c2 c3;obtain ⟨α,β,o1,rfl,rfl,pr1,ka,va,kb,vb⟩:=hM.stn s1;obtain ⟨γ,δ,o2,rfl,rfl,pr2,kc,vc,kd,vd⟩:=hM.stn s2;obtain ⟨ε,φ,o3,rfl,rfl,pr3,ke,ve,kf,vf⟩:=hM.stn s3;obtain ⟨f1,n1⟩:=a8y (x:=x) c1 kb vb kc vc;obtain ⟨f2,n2⟩:=a8y (x:=x) c2 kd vd ke ve;obtain ⟨f3,n3⟩:=a8y (x:=x) c3 kf vf ka va;have hall : ∀ w∈[(t,α,β),(u,γ,δ),(v,ε,φ)],a3K x w:=by
  intro w hw;simp only [List.mem_cons,List.not_mem_nil,or_false] at hw;rcases hw with rfl | rfl | rfl
  ·exact o1
  ·exact o2
  exact o3
 have hc:prB x (t,α,β)=true\/prB x (u,γ,δ)=true\/prB x (v,ε,φ)=true->a2D x [(t,α,β),(u,γ,δ),(v,ε,φ)]=true:=c1h f1 f2 f3 n1 n2 htv
 exact ⟨fun h=>hold _ t α β hall (by simp) (by simp) (hc (.inl (pr1 h))) (by simp) (pr1 h),fun h=>hold _ u γ δ hall (by simp) (by simp) (hc (.inr (.inl (pr2 h)))) (by simp) (pr2 h),
  fun h=>hold _ v ε φ hall (by simp) (by simp) (hc (.inr (.inr (pr3 h)))) (by simp) (pr3 h)⟩
end
abbrev cFe:Cod (Int×Int):=cG (lc (cI .i64) (l1 (cI .i64)))
abbrev eF (y:List (Int×Int)):List D:=enc cFe y
theorem a4d (y:List (Int×Int)):Ar.std.len (eF y)=(y.length:Int):=by rw [a0Y]
theorem b6S {y:List (Int×Int)} (f:Int×Int) (h:y.length<4294967295):ap Ar.std (eF y) [.agg [.int .i64 f.1,.int .i64 f.2]]=some (eF (y++[f])):=a5x (c:=cFe) (a:=f) rfl h
theorem b5E {y:List (Int×Int)} (hy:y.length<=200) (a b:Int):N28 Ar.std (eF y) a b=some (decide ((a,b)∈y)):=by
 have key:=a1H (step:=b1k Ar.std (eF y) a b) y (fun f=>decide ((a,b)=f)) (fun i=>(Sum.inr (i:Int):Unit⊕Int)) (Sum.inl ()) (fun i f hf hi=>by
   obtain ⟨f1,f2⟩:=f;unfold b1k;refine cnT (by rw [a4d];simp;omega) (bt (a1b hf) ?_);have hd:Ar.std.deq [(.int .i64 a),(.int .i64 b)] [(.int .i64 f1),(.int .i64 f2)]=decide ((a,b)=(f1,f2)):=by
    by_cases h:a=f1/\b=f2
    ·obtain ⟨rfl,rfl⟩:=h;simp
    have h1 : ¬ ((a,b)=(f1,f2)):=by simpa [Prod.ext_iff] using h
    rw [decide_eq_false h1];simp [Prod.ext_iff] at h ⊢;exact h
   simp only [hd];cases decide ((a,b)=(f1,f2)) with
   | true=>rfl
   | false=>exact cnF rfl (by rw [wS (by omega)];rfl)) (by
   unfold b1k;exact cnF (by rw [a4d];simp) rfl)
 unfold N28 N55;have hm:decide ((a,b)∈y)=y.any (fun f=>decide ((a,b)=f)):=by
  rw [Bool.eq_iff_iff];simp
 rw [hm,<-a3s (l:=y) (p:=fun f=>decide ((a,b)=f))];cases hf:y.findIdx? (fun f=>decide ((a,b)=f)) with
 | none=>rw [hf] at key;exact bt (v := -1) (bt key rfl) rfl
 | some i=>rw [hf] at key;exact bt (v:=(i:Int)) (bt key rfl) (by simp)
def okF (x:Ax) (f:Int×Int):Prop:=0<=f.1/\f.1<(x.length:Int)/\0<=f.2/\f.2+1<((thX x f.1.toNat).length:Int)
theorem b4C {l:List (Int×Bool)} (hl:l.length<=4) (t:Nat) {y:List (Int×Int)} (hy:y.length<=100) :
  ∃ y',y'.length<=y.length+4/\(∀ f,f∈y'->f∈y\/(f.1=(t:Int)/\0<=f.2/\f.2+1<(l.length:Int)))/\iter (b0p Ar.std (t:Int) (eAs l)) (eF y,0)=some (eF y'):=by
 have ez:Ar.std.zmax 0 (Ar.std.wrp .i64 (Ar.std.zsub (Ar.std.len (eAs l)) 1))=((l.length-1:Nat):Int):=by
  rw [a0Y];simp only [a0m,a0J];rw [a3v _ (by omega) (by omega)];simp only [Ar.std];split <;> omega
 have key:=a0D (step:=b0p Ar.std (t:Int) (eAs l)) (l.length-1) (fun (z:List (Int×Int)) (i:Nat)=>(eF z,(i:Int))) (fun i z=>z.length<=y.length+i /\ ∀ f,f∈z->f∈y\/(f.1=(t:Int)/\0<=f.2/\f.2+1<(l.length:Int))) (fun z=>eF z)
  (fun i z hi hR=>by
   refine ⟨z++[((t:Int),(i:Int))],⟨by simp;omega,fun f hf => ?_⟩,?_⟩
   ·rcases List.mem_append.1 hf with h | h
    ·exact hR.2 f h
    simp at h;subst h;exact .inr ⟨rfl,by simp,by simp;omega⟩
   unfold b0p;dsimp only;rw [ez];refine cnT (by simp;omega) (bt (b6S ((t:Int),(i:Int)) (by omega)) ?_);rw [wS (by omega)])
  (fun z _=>by
   unfold b0p;dsimp only;rw [ez];exact cnF (by simp) rfl) y ⟨by omega,fun f hf => .inl hf⟩
 obtain ⟨z,⟨h1,h2⟩,h⟩:=key;exact ⟨z,by omega,h2,h⟩
theorem b8W {x:Ax} (hv:VX x) : ∃ y,y.length<=12/\(∀ f∈y,okF x f)/\N35 Ar.std (eA x)=some (eF y):=by
 have hn3:=hv.n3;have key:=a0D (step:=b0q Ar.std (eA x)) x.length (fun (z:List (Int×Int)) (i:Nat)=>(eF z,(i:Int))) (fun i z=>z.length<=4*i /\ ∀ f∈z,okF x f) (fun z=>eF z)
  (fun i z hi hR=>by
   obtain ⟨y',h1,h2,h3⟩:=b4C (hv.l4 i) i (y:=z) (by omega);refine ⟨y',⟨by omega,fun f hf => ?_⟩,?_⟩
   ·rcases h2 f hf with h | ⟨g1,g2,g3⟩
    ·exact hR.2 f h
    unfold okF;rw [g1];exact ⟨by omega,by omega,g2,by rw [Int.toNat_natCast];exact g3⟩
   unfold b0q;refine cnT (by simp;omega) (bt (a5H (a1L hi)) (bt h3 ?_));rw [wS (by omega)])
  (fun z _=>by
   unfold b0q;exact cnF (by simp) rfl) [] ⟨by simp,by simp⟩
 obtain ⟨z,⟨h1,h2⟩,h⟩:=key;exact ⟨z,by omega,h2,by unfold N35;exact bt (show iter (b0q Ar.std (eA x)) ([],0)=_ from h) rfl⟩
theorem b8X {x:Ax} (hv:VX x) {y:List (Int×Int)} (hy:y.length<=100) :
  ((∀ f∈y,okF x f)/\N48 Ar.std (eA x) (eF y)=some (eF y,true))\/N48 Ar.std (eA x) (eF y)=some ([],false):=by
 obtain ⟨al,ha1,ha2,ha3⟩:=b8W hv;have key:=a2C (step:=a8K Ar.std (eF y) (eF al)) y.length (fun (_:Unit) i=>(eF (y.take i),(i:Int))) (fun i _ => ∀ f∈y.take i,okF x f) (fun i r=>r = .inr ()) (fun _ => .inl (eF y))
  (fun i _ hi hR=>by
   have hz:=zp1 hi;generalize y[i]=f at hz;unfold a8K;dsimp only;have hyl:Ar.std.zlt (i:Int) (Ar.std.len (eF y))=true:=by rw [a4d];simp;omega
   have e28:=b5E (y:=al) (by omega) f.1 f.2

   obtain ⟨b,hb,hbm⟩ : ∃ b:Bool,((N28 Ar.std (eF al) f.1 f.2).bind fun r31 =>
     bif r31 then
      bif (Ar.std.zlt 0 (i:Int)) then
       (gt Ar.std (cG (lc (cI .i64) (l1 (cI .i64)))) (eF y) (Ar.std.wrp .i64 (Ar.std.zsub (i:Int) 1))).bind fun (a34,a35) =>
       (N62 Ar.std [(.int .i64 a34),(.int .i64 a35)] [(.int .i64 f.1),(.int .i64 f.2)]).bind fun r40 =>
       some (Ar.std.zle 0 r40)
      else
       some false
     else
      some true:Option (Bool))=some b/\(b=false->f∈al):=by
    by_cases hm:(f.1,f.2)∈al
    ·rw [decide_eq_true hm] at e28;by_cases hi0:0<i
     ·have hp:y[i-1]?=some (y[i-1]'(by omega)):=zp1 _;generalize y[i-1]'(by omega)=p at hp;have ei:Ar.std.wrp .i64 (Ar.std.zsub (i:Int) 1)=((i-1:Nat):Int):=by
       simp only [a0m,a0J];rw [a3v _ (by omega) (by omega)];omega
      refine ⟨Ar.std.zle 0 (cmpL [p.1,p.2] [f.1,f.2]),bt e28 (cnT rfl (cnT (by simp;omega) ?_)),fun _=>hm⟩;rw [ei];exact bt (a1b hp) (bt (a8t (a:=[p.1,p.2]) (b:=[f.1,f.2]) (by simp) (by simp)) rfl)
     exact ⟨false,bt e28 (cnT rfl (cnF (by simp;omega) rfl)),fun _=>hm⟩
    rw [decide_eq_false hm] at e28;exact ⟨true,bt e28 rfl,fun h=>by cases h⟩
   cases b with
   | true=>exact .inr ⟨.inr (),rfl,cnT hyl (bt (a1b hz) (bt hb rfl))⟩
   | false =>
     refine .inl ⟨(),?_,cnT hyl (bt (a1b hz) (bt hb (cnF rfl (bt (b6S f (by simp;omega)) ?_))))⟩
     ·intro g hg;rw [a0i hz] at hg;rcases List.mem_append.1 hg with h | h
      ·exact hR g h
      simp at h;subst h;exact ha2 _ (hbm rfl)
     rw [wS (by omega),a0i hz])
  (fun _ _=>by
   unfold a8K;dsimp only;refine cnF (by rw [a4d];simp) ?_;rw [List.take_length]) () (by simp)
 unfold N48;rcases key with ⟨_,hok,h⟩ | ⟨i,r,_,rfl,h⟩
 ·rw [List.take_length] at hok;exact .inl ⟨hok,bt ha3 (bt (show iter (a8K Ar.std (eF y) (eF al)) ([],0)=_ from h) rfl)⟩
 exact .inr (bt ha3 (bt (show iter (a8K Ar.std (eF y) (eF al)) ([],0)=_ from h) rfl))
theorem b8Y {x:Ax} (hS:a6A x) (hvx:vX x=true) {y:List (Int×Int)} (hy:y.length<=100) :
  ((∀ f∈y,okF x f)/\N24 Ar.std (eA x) (eF y)=some (eF y,0))\/N24 Ar.std (eA x) (eF y)=some ([],2):=by
 have e:=b5C hS;rw [hvx] at e;unfold N24;rcases b8X (VX.of hvx) hy with ⟨h1,h2⟩ | h
 ·exact .inl ⟨h1,bt e (cnT rfl (bt h2 rfl))⟩
 exact .inr (bt e (cnT rfl (bt h rfl)))
def b0Y (y:List (Int×Int)) (s:S3):Bool:=y.any fun f=>decide (f.1=(s.1:Int))&&(decide ((s.2.1:Int)<=f.2)&&decide (f.2<(s.2.2:Int)))
theorem b8Z {y:List (Int×Int)} (hy:y.length<=200) (s:S3):N51 Ar.std (eF y) (s.1:Int) (s.2.1:Int) (s.2.2:Int)=some (b0Y y s):=by
 let p:Int×Int->Bool:=fun f=>decide (f.1=(s.1:Int))&&(decide ((s.2.1:Int)<=f.2)&&decide (f.2<(s.2.2:Int)));have key:=a1H (step:=a7z Ar.std (eF y) (s.1:Int) (s.2.1:Int) (s.2.2:Int)) y p (fun i=>(Sum.inr (i:Int):Unit⊕Int)) (Sum.inl ()) (fun i f hf hi=>by
   unfold a7z;refine cnT (by rw [a4d];simp;omega) (bt (a1b hf) (bt (v:=p f) ?_ ?_))
   ·unfold N88 N89;refine bt (bt (v:=p f) ?_ rfl) rfl;show (bif decide (f.1=(s.1:Int)) then bif decide ((s.2.1:Int)<=f.2) then some (decide (f.2<(s.2.2:Int))) else some false else some false)=some (decide (f.1=(s.1:Int))&&(decide ((s.2.1:Int)<=f.2)&&decide (f.2<(s.2.2:Int))))
    cases decide (f.1=(s.1:Int)) <;> cases decide ((s.2.1:Int)<=f.2) <;> rfl
   ·cases p f with
    | true=>rfl
    | false=>exact cnF rfl (by rw [wS (by omega)];rfl)) (by
   unfold a7z;exact cnF (by rw [a4d];simp) rfl)
 unfold N51 N87 b9t;show _=some (y.any p);rw [<-a3s (l:=y) (p:=p)];cases hf:y.findIdx? p with
 | none=>rw [hf] at key;exact bt (bt (v := -1) (bt key rfl) rfl) rfl
 | some i=>rw [hf] at key;exact bt (v:=true) (bt (v:=(i:Int)) (bt key rfl) (by simp)) rfl
theorem b9a {y:List (Int×Int)} (hy:y.length<=200) {R:List S3} (hR:R.length<=100):N25 Ar.std (eF y) (eSt R)=some (R.all (b0Y y)):=by
 have key:=a1H (step:=a7A Ar.std (eSt R) (eF y)) R (fun s => !b0Y y s) (fun i=>(Sum.inr (i:Int):Unit⊕Int)) (Sum.inl ()) (fun i s hs hi=>by
   unfold a7A;refine cnT (by rw [a0Q];simp;omega) (bt (a3h hs) (bt (v := !b0Y y s) (by unfold N50;exact bt (b8Z hy s) rfl) ?_));cases b0Y y s with
   | true=>exact cnF rfl (by rw [wS (by omega)];rfl)
   | false=>rfl) (by
   unfold a7A;exact cnF (by rw [a0Q];simp) rfl)
 have hn:R.all (b0Y y) = !R.any (fun s => !b0Y y s):=by rw [List.all_eq_not_any_not]
 unfold N25 b9v b9u;rw [hn,<-a3s (l:=R) (p:=fun s => !b0Y y s)];cases hf:R.findIdx? (fun s => !b0Y y s) with
 | none=>rw [hf] at key;exact bt (v:=false) (bt (v := -1) (bt key rfl) rfl) rfl
 | some i=>rw [hf] at key;exact bt (v:=true) (bt (v:=(i:Int)) (bt key rfl) (by simp)) rfl
theorem b3j (q:Nat->Bool) : ∀ (l:List Ac) (i:Nat) (a:Ac),wv q i (l++[a])=wv q i l++(a::if q (i+l.length) then [fnc] else [])
 | [],i,a=>by cases h:q i <;> simp [wv,h]
 | b::l,i,a=>by
   have ih:=b3j q l (i+1) a;have e:i+(b::l).length=i+1+l.length:=by simp;omega
   rw [e];cases h:q i <;> simp [wv,h,ih]
theorem b3k (q:Nat->Bool) : ∀ (l:List Ac) (i:Nat),(wv q i l).length=psW q i l.length
 | [],_=>rfl
 | a::l,i=>by
   have ih:=b3k q l (i+1);rw [List.length_cons,a4c];cases h:q i <;> simp [wv,h,ih] <;> omega
theorem b3l (q:Nat->Bool) : ∀ (l:List Ac) (i:Nat) {c:Ac},c∈wv q i l->c∈l\/c=fnc
 | [],_,c,h=>by simp [wv] at h
 | a::l,i,c,h=>by
   cases hq:q i with
   | true =>
     simp only [wv,hq,if_true,List.mem_cons] at h;rcases h with rfl | rfl | h
     ·simp
     ·exact .inr rfl
     rcases b3l q l (i+1) h with h | h
     ·exact .inl (by simp [h])
     exact .inr h
   | false =>
     simp only [wv,hq,Bool.false_eq_true,if_false,List.mem_cons] at h;rcases h with rfl | h
     ·simp
     rcases b3l q l (i+1) h with h | h
     ·exact .inl (by simp [h])
     exact .inr h
theorem b9b (q:Nat->Bool) : ∀ (l:List Ac) (i:Nat),nWk (wv q i l)=nWk l
 | [],_=>rfl
 | a::l,i=>by
   have ih:=b9b q l (i+1);unfold nWk at *;cases hq:q i <;> simp [wv,hq,List.countP_cons,ih,wk,fnc]
theorem b5F (q:Nat->Bool) (i b:Nat):psW q i b<=2*b:=by
 induction b with
 | zero=>simp [psW]
 | succ b ih =>
   rw [show psW q i (b+1)=psW q i b+1+(if q (i+b) then 1 else 0) from rfl]
   split <;> omega
def okA (x:Ax) (t:Nat) (A:List Ac):Prop := ∀ (a:Nat) (c:Ac),A[a]?=some c->c.1=(if (acX x t a).2 then 2 else 1)/\c.2.1=(acX x t a).1/\a7t c=true
def qF (y:List (Int×Int)) (t a:Nat):Bool:=decide (((t:Int),(a:Int))∈y)
theorem b9c {l:List Ac} (c:Ac) (h:l.length<4294967295):ap Ar.std (eT l) [.agg [.int .i64 c.1,.int .i64 c.2.1,.int .i64 c.2.2]]=some (eT (l++[c])):=a5x (c:=cA3) (a:=c) rfl h
theorem b6T {x:Ax} (hv:VX x) {y:List (Int×Int)} (hy:y.length<=200) {t:Nat} (ht:t<x.length) {w:Nat} (hw:w<=100) :
  ∃ (w':Nat) (A:List Ac),w'<=w+4/\A.length=(thX x t).length/\okA x t A/\iter (b5K Ar.std (eF y) (t:Int) (eAs (thX x t))) ((w:Int),[],0)=some ((w':Int),eT (wv (qF y t) 0 A)):=by
 have h4:=hv.l4 t;have key:=a0D (step:=b5K Ar.std (eF y) (t:Int) (eAs (thX x t))) (thX x t).length (fun (s:Nat×List Ac) (i:Nat)=>((s.1:Int),eT (wv (qF y t) 0 s.2),(i:Int)))
  (fun i s=>s.1<=w+i/\s.2.length=i/\okA x t s.2) (fun s=>((s.1:Int),eT (wv (qF y t) 0 s.2)))
  (fun i s hi hR=>by
   obtain ⟨u,A⟩:=s;obtain ⟨r1,r2,r3⟩:=hR;dsimp only at r1 r2 r3;have hx:(thX x t)[i]?=some (acX x t i):=a9p hi;have hva:=hv.acc t i hi;have hle:(wv (qF y t) 0 A).length<=8:=by rw [b3k];have:=b5F (qF y t) 0 A.length;omega
   have e28:=b5E (y:=y) hy (t:Int) (i:Int)

   obtain ⟨u',c,hu',hc1,hc2,hc3,hact⟩ : ∃ (u':Nat) (c:Ac),u'<=u+1/\c.1=(if (acX x t i).2 then 2 else 1)/\c.2.1=(acX x t i).1/\a7t c=true /\
     (bif (acX x t i).2 then
      (nk (Ar.std.zeq 3 0)).bind fun _ =>
      some ((Ar.std.wrp .i64 (Ar.std.zadd (u:Int) 1)),2,(Ar.std.wrp .i64 (Ar.std.zadd (Ar.std.rem (u:Int) 3) 1)))
     else
      some ((u:Int),1,0):Option (Int×Int×Int))=some ((u':Int),c.1,c.2.2):=by
    generalize acX x t i=ac at hva;obtain ⟨v,wr⟩:=ac;dsimp only at hva ⊢;cases wr with
    | true =>
      have er:Ar.std.rem (u:Int) 3=((u%3:Nat):Int):=rfl;refine ⟨u+1,(2,v,((u%3+1:Nat):Int)),Nat.le_refl _,rfl,rfl,?_,?_⟩
      ·have h3:u%3<3:=Nat.mod_lt _ (by decide);unfold a7t btw;simp;omega
      refine cnT rfl (bnk rfl ?_);rw [er,wS (by omega),wS (by have:=Nat.mod_lt u (show 0<3 by decide);omega)]
    | false =>
      refine ⟨u,(1,v,0),by omega,rfl,rfl,?_,cnF rfl rfl⟩;unfold a7t btw;simp;omega
   refine ⟨(u',A++[c]),⟨by dsimp only;omega,by simp [r2],fun a d had => ?_⟩,?_⟩
   ·dsimp only at had;rcases Nat.lt_or_ge a A.length with h | h
    ·rw [zp7 h] at had;exact r3 a d had
    rw [zp8 h] at had;have ha:a=i:=by
     have:=(zp2.1 had).1;simp at this;omega
    subst ha;rw [show a-A.length=0 by omega] at had;simp at had;subst had;exact ⟨hc1,hc2,hc3⟩
   have es:=b3j (qF y t) A 0 c;rw [Nat.zero_add,r2] at es
   have key2 : ∀ {r},((ap Ar.std (eT (wv (qF y t) 0 A)) [(.agg [(.int .i64 c.1),(.int .i64 (acX x t i).1),(.int .i64 c.2.2)])]).bind fun l132 =>
     (N28 Ar.std (eF y) (t:Int) (i:Int)).bind fun r137 =>
     ((
      bif r137 then
       (ap Ar.std l132 [(.agg [(.int .i64 3),(.int .i64 0),(.int .i64 0)])]).bind fun l139 =>
       some l139
      else
       some l132:Option (List D))).bind fun v143 =>
     some (Sum.inl ((u':Int),v143,(Ar.std.wrp .i64 (Ar.std.zadd (i:Int) 1))):(Int×List D×Int)⊕(Int×List D)))=r->b5K Ar.std (eF y) (t:Int) (eAs (thX x t)) ((u:Int),eT (wv (qF y t) 0 A),(i:Int))=r:=by
    intro r hr;unfold b5K;dsimp only;refine cnT (by simp;omega) (bt (a1b hx) (bt hact hr))
   refine key2 ?_;rw [<-hc2];refine bt (b9c c (by omega)) (bt e28 (bt (v:=eT (wv (qF y t) 0 (A++[c]))) ?_ (by rw [wS (by omega)])));rw [es];show (bif qF y t i then _ else _)=_
   cases hq:qF y t i with
   | true =>
     refine cnT rfl (bt (b9c fnc (by simp;omega)) ?_);simp
   | false =>
     refine cnF rfl ?_;simp)
  (fun s hR=>by
   unfold b5K;dsimp only;exact cnF (by simp) rfl) (w,[]) ⟨by simp,rfl,fun a c h=>by simp at h⟩
 obtain ⟨⟨w',A⟩,⟨h1,h2,h3⟩,h⟩:=key;exact ⟨w',A,by dsimp only at h1;omega,h2,h3,h⟩
theorem b6U {x:Ax} (hv:VX x) {y:List (Int×Int)} (hy:y.length<=200) : ∃ P:Pg,Mk x (qF y) P/\iter (b7f Ar.std (eA x) (eF y)) (0,[],0)=some (eP P):=by
 have hn3:=hv.n3;have key:=a0D (step:=b7f Ar.std (eA x) (eF y)) x.length (fun (s:Nat×Pg) (i:Nat)=>((s.1:Int),eP s.2,(i:Int)))
  (fun i s=>s.1<=4*i/\s.2.length=i /\ ∀ t,t<i -> ∃ A:List Ac,A.length=(thX x t).length/\thr s.2 t=wv (qF y t) 0 A/\okA x t A) (fun s=>eP s.2)
  (fun i s hi hR=>by
   obtain ⟨u,Q⟩:=s;obtain ⟨r1,r2,r3⟩:=hR;dsimp only at r1 r2 r3;obtain ⟨w',A,q1,q2,q3,q4⟩:=b6T hv hy hi (w:=u) (by omega);have ea:ap Ar.std (eP Q) [D.list 3 (eT (wv (qF y i) 0 A))]=some (eP (Q++[wv (qF y i) 0 A])):=by
    rw [b8a (by simp;omega)];unfold eP enc;rw [List.map_append,List.map_append];rfl
   refine ⟨(w',Q++[wv (qF y i) 0 A]),⟨by dsimp only;omega,by simp [r2],fun t ht => ?_⟩,?_⟩
   ·dsimp only;by_cases h:t<i
    ·obtain ⟨B,b1,b2,b3⟩:=r3 t h;refine ⟨B,b1,?_,b3⟩;rw [<-b2];unfold thr;rw [List.getD_eq_getElem?_getD,List.getD_eq_getElem?_getD,zp7 (by omega)]
    have:t=i:=by omega
    subst this;refine ⟨A,q2,?_,q3⟩;unfold thr;rw [List.getD_eq_getElem?_getD,zp8 (by omega),r2,Nat.sub_self];rfl
   unfold b7f;dsimp only;refine cnT (by simp;omega) (bt (a5H (a1L hi)) (bt q4 (bt ea ?_)));rw [wS (by omega)])
  (fun s hR=>by
   unfold b7f;dsimp only;exact cnF (by simp) rfl) (0,[]) ⟨by simp,rfl,fun t ht=>by omega⟩
 obtain ⟨⟨w',P⟩,⟨_,h2,h3⟩,h⟩:=key;exact ⟨P,⟨h2,h3⟩,h⟩
theorem Mk.valid {x:Ax} (hv:VX x) (h6:allX x<=6) {y:List (Int×Int)} (hok : ∀ f∈y,okF x f) {P:Pg} (hM:Mk x (qF y) P):a6s P=true:=by
 have hwk : ∀ t,t<x.length->nWk (Go.Am.thr P t)=(thX x t).length:=by
  intro t ht;obtain ⟨A,e1,e2,e3⟩:=hM.thd t ht;rw [e2,b9b];unfold nWk;rw [<-e1,List.countP_eq_length];intro c hc;obtain ⟨i,hi,rfl⟩:=List.mem_iff_getElem.1 hc;have:=(e3 i _ (zp1 hi)).1;unfold wk;rw [this];split <;> simp
 have hget : ∀ t,t<x.length->P[t]?=some (Go.Am.thr P t):=fun t ht=>a1I (by rw [hM.len];exact ht);have hsum:allW P=allX x:=by
  unfold allW allX;congr 1;apply List.ext_getElem?;intro t;rw [List.getElem?_map,List.getElem?_map];by_cases ht:t<x.length
  ·rw [hget t ht,a1L ht];simp only [Option.map_some];rw [hwk t ht]
  rw [List.getElem?_eq_none (by rw [hM.len];omega),List.getElem?_eq_none (by omega)];rfl
 unfold a6s;simp only [zp4,decide_eq_true_eq,List.all_eq_true];refine ⟨⟨fun l hl => ?_,by rw [hM.len];exact ⟨hv.n1,hv.n3⟩⟩,by rw [hsum];omega⟩;obtain ⟨t,ht,rfl⟩:=List.mem_iff_getElem.1 hl;have htx:t<x.length:=by rw [<-hM.len];exact ht
 have el:P[t]=Go.Am.thr P t:=by have:=hget t htx;rw [zp1 ht] at this;exact Option.some.inj this
 rw [el];obtain ⟨A,e1,e2,e3⟩:=hM.thd t htx;have h4:=hv.l4 t;unfold b2A;simp only [zp4,decide_eq_true_eq,List.all_eq_true];refine ⟨⟨?_,fun c hc => ?_⟩,by rw [hwk t htx];exact h4⟩
 ·rw [e2,b3k,e1];cases hb:(thX x t).length with
  | zero=>simp [psW]
  | succ b =>
    have hq:qF y t (0+b)=false:=by
     unfold qF;rw [decide_eq_false_iff_not];intro h;have:=(hok _ h).2.2.2;simp at this;omega
    rw [show psW (qF y t) 0 (b+1)=psW (qF y t) 0 b+1+(if qF y t (0+b) then 1 else 0) from rfl,hq]
    have:=b5F (qF y t) 0 b;simp;omega
 rw [e2] at hc;rcases b3l (qF y t) A 0 hc with h | rfl
 ·obtain ⟨i,hi,rfl⟩:=List.mem_iff_getElem.1 h;exact (e3 i _ (zp1 hi)).2.2
 rfl
theorem b9d {x:Ax} (hv:VX x) : ∃ r:List (Int×Int),r.length=allX x/\N27 Ar.std (eA x)=some (eF r):=by
 have hn3:=hv.n3;have inner : ∀ (t:Nat) (z:List (Int×Int)),z.length<=100 -> ∃ z':List (Int×Int),z'.length=z.length+(thX x t).length/\iter (b0r Ar.std (t:Int) (eAs (thX x t))) (eF z,0)=some (eF z'):=by
  intro t z hz;have h4:=hv.l4 t;have key:=a0D (step:=b0r Ar.std (t:Int) (eAs (thX x t))) (thX x t).length (fun (u:List (Int×Int)) (i:Nat)=>(eF u,(i:Int))) (fun i u=>u.length=z.length+i) (fun u=>eF u)
   (fun i u hi hR=>by
    refine ⟨u++[((t:Int),(i:Int))],by simp;omega,?_⟩;unfold b0r;refine cnT (by simp;omega) (bt (b6S ((t:Int),(i:Int)) (by omega)) ?_);rw [wS (by omega)])
   (fun u _=>by
    unfold b0r;exact cnF (by simp) rfl) z (by simp)
  exact key
 have key:=a0D (step:=b0s Ar.std (eA x)) x.length (fun (u:List (Int×Int)) (i:Nat)=>(eF u,(i:Int))) (fun i u=>u.length=((x.take i).map List.length).sum/\u.length<=4*i) (fun u=>eF u)
  (fun i u hi hR=>by
   obtain ⟨z',h1,h2⟩:=inner i u (by omega);have h4:=hv.l4 i;refine ⟨z',⟨?_,by omega⟩,?_⟩
   ·rw [a0i (a1L hi)];simp only [List.map_append,List.map_cons,List.map_nil,List.sum_append,List.sum_cons,List.sum_nil];omega
   unfold b0s;refine cnT (by simp;omega) (bt (a5H (a1L hi)) (bt h2 ?_));rw [wS (by omega)])
  (fun u _=>by
   unfold b0s;exact cnF (by simp) rfl) [] ⟨by simp,by simp⟩
 obtain ⟨r,⟨h1,_⟩,h⟩:=key;rw [List.take_length] at h1;exact ⟨r,h1,by unfold N27;exact bt (show iter (b0s Ar.std (eA x)) ([],0)=_ from h) rfl⟩
def stA (x:Ax) (t a n:Nat):List S3:=((List.range n).filter fun j=>decide (a=a+j)||prB x (t,a,a+j)).map fun j=>(t,a,a+j)
def stT (x:Ax) (t n:Nat):List S3:=(List.range n).flatMap fun a=>stA x t a ((thX x t).length-a)
def stX (x:Ax) (n:Nat):List S3:=(List.range n).flatMap fun t=>stT x t (thX x t).length
theorem b3m (x:Ax) (t a n:Nat):(stA x t a n).length<=n:=by
 unfold stA;rw [List.length_map];have:=List.length_filter_le (fun j=>decide (a=a+j)||prB x (t,a,a+j)) (List.range n);simpa using this
theorem b4D {x:Ax} (hv:VX x) {t a:Nat} (ht:t<x.length) (ha:a<(thX x t).length) {L:List S3} (hL:L.length<=1000) :
  iter (a5S Ar.std (eA x) (t:Int) (eAs (thX x t)) (a:Int)) (eSt L,(a:Int))=some (eSt (L++stA x t a ((thX x t).length-a))):=by
 have h4:=hv.l4 t;have key:=a0D (step:=a5S Ar.std (eA x) (t:Int) (eAs (thX x t)) (a:Int)) ((thX x t).length-a) (fun (_:Unit) (i:Nat)=>(eSt (L++stA x t a i),((a+i:Nat):Int))) (fun _ _=>True) (fun _=>eSt (L++stA x t a ((thX x t).length-a)))
  (fun i _ hi _=>by
   refine ⟨(),trivial,?_⟩;have hb:a+i<(thX x t).length:=by omega
   have e91:=b0f hv (s:=(t,a,a+i)) ⟨ht,ha⟩ ⟨ht,hb⟩;have ew:Ar.std.wrp .i64 (Ar.std.zadd ((a+i:Nat):Int) 1)=((a+(i+1):Nat):Int):=by rw [wS (by omega)];rfl
   have hq:(bif Ar.std.zeq (a:Int) ((a+i:Nat):Int) then some true else (N91 Ar.std (eA x) (t:Int) (a:Int) ((a+i:Nat):Int)).bind fun r118=>some r118)=some (decide (a=a+i)||prB x (t,a,a+i)):=by
    by_cases h:a=a+i
    ·exact cnT (by simp;omega) (by rw [decide_eq_true h];rfl)
    exact cnF (by simp;omega) (bt e91 (by rw [decide_eq_false h];rfl))
   have hs:stA x t a (i+1)=stA x t a i++(bif (decide (a=a+i)||prB x (t,a,a+i)) then [(t,a,a+i)] else []):=by
    unfold stA;rw [List.range_succ,List.filter_append,List.map_append];congr 1;cases h:(decide (a=a+i)||prB x (t,a,a+i)) <;> simp only [List.filter_cons,List.filter_nil,h] <;> rfl
   have hl:=b3m x t a i;unfold a5S;refine cnT (by simp;omega) (bt hq (bt (v:=eSt (L++stA x t a (i+1))) ?_ (by rw [ew])));rw [hs];cases hc:(decide (a=a+i)||prB x (t,a,a+i)) with
   | true=>exact cnT rfl (bt (b0g (t,a,a+i) (by simp;omega)) (by simp))
   | false=>exact cnF rfl (by simp))
  (fun _ _=>by
   unfold a5S;exact cnF (by simp;omega) rfl) () trivial
 obtain ⟨_,_,h⟩:=key;have e0:stA x t a 0=[]:=rfl;rw [e0,List.append_nil] at h;exact h
theorem b3n {x:Ax} (hv:VX x) (t n:Nat) (hn:n<=4):(stT x t n).length<=4*n:=by
 have h4:=hv.l4 t
 induction n with
 | zero=>simp [stT]
 | succ n ih =>
   have:=ih (by omega);have hl:=b3m x t n ((thX x t).length-n);unfold stT at *;rw [List.range_succ,List.flatMap_append,List.length_append];simp only [List.flatMap_cons,List.flatMap_nil,List.append_nil];omega
theorem b4E {x:Ax} (hv:VX x) {t:Nat} (ht:t<x.length) {L:List S3} (hL:L.length<=500):iter (a5T Ar.std (eA x) (t:Int) (eAs (thX x t))) (eSt L,0)=some (eSt (L++stT x t (thX x t).length)):=by
 have h4:=hv.l4 t;have key:=a0D (step:=a5T Ar.std (eA x) (t:Int) (eAs (thX x t))) (thX x t).length (fun (_:Unit) (i:Nat)=>(eSt (L++stT x t i),(i:Int))) (fun _ _=>True) (fun _=>eSt (L++stT x t (thX x t).length))
  (fun i _ hi _=>by
   refine ⟨(),trivial,?_⟩;have hl:=b3n hv t i (by omega);unfold a5T;refine cnT (by simp;omega) (bt (b4D hv ht hi (L:=L++stT x t i) (by simp;omega)) ?_);have hs:stT x t (i+1)=stT x t i++stA x t i ((thX x t).length-i):=by
    unfold stT;rw [List.range_succ,List.flatMap_append];simp
   rw [wS (by omega),hs,List.append_assoc])
  (fun _ _=>by
   unfold a5T;exact cnF (by simp) rfl) () trivial
 obtain ⟨_,_,h⟩:=key;have e0:stT x t 0=[]:=rfl;rw [e0,List.append_nil] at h;exact h
theorem b9e {x:Ax} (hv:VX x):N80 Ar.std (eA x)=some (eSt (stX x x.length)):=by
 have hn3:=hv.n3;have hlen : ∀ i,(stX x i).length<=16*i:=by
  intro i
  induction i with
  | zero=>simp [stX]
  | succ i ih =>
    have hl:=b3n hv i (thX x i).length (hv.l4 i);have h4:=hv.l4 i;unfold stX at *;rw [List.range_succ,List.flatMap_append,List.length_append];simp only [List.flatMap_cons,List.flatMap_nil,List.append_nil];omega
 have key:=a0D (step:=a5U Ar.std (eA x)) x.length (fun (_:Unit) (i:Nat)=>(eSt (stX x i),(i:Int))) (fun _ _=>True) (fun _=>eSt (stX x x.length))
  (fun i _ hi _=>by
   refine ⟨(),trivial,?_⟩;have hl:=hlen i;unfold a5U;refine cnT (by simp;omega) (bt (a5H (a1L hi)) (bt (b4E hv hi (L:=stX x i) (by omega)) ?_));have hs:stX x (i+1)=stX x i++stT x i (thX x i).length:=by
    unfold stX;rw [List.range_succ,List.flatMap_append];simp
   rw [wS (by omega),hs])
  (fun _ _=>by
   unfold a5U;exact cnF (by simp) rfl) () trivial
 obtain ⟨_,_,h⟩:=key;unfold N80;exact bt (show iter (a5U Ar.std (eA x)) ([],0)=_ from h) rfl
def okN (x:Ax) (l:List S3) (s:S3):Bool:=match l.getLast? with | some u=>cfX x u.1 u.2.2 s.1 s.2.1 | none=>true
def a6e (x:Ax) (l:List S3):Nat:=if (decide (2<=l.length)&&a2D x l)=true then 1 else 0
def b6V (x:Ax) (St:List S3):Nat->List S3->Nat
 | 0,l=>a6e x l
 | k+1,l=>a6e x l+(St.map fun s=>if okN x l s=true then b6V x St k (l++[s]) else 0).sum
theorem wB {i:Nat} (h:i<=1000000):Ar.std.wrp .i64 (Ar.std.zadd (i:Int) 1)=((i+1:Nat):Int):=by
 simp only [a0m,a0w];rw [a3v _ (by omega) (by omega)];rfl
theorem b6W {x:Ax} (hv:VX x) {St:List S3} (hSt : ∀ s∈St,a3K x s) (hSl:St.length<=48) :
  ∀ (k n:Nat) (l:List S3) (c:Nat),l.length+k=3->(∀ s∈l,a3K x s)->c+b6V x St k l<=1000000->b4P Ar.std (n+k+1) (eSt l) (c:Int) (eA x) (eSt St)=some (true,((c+b6V x St k l:Nat):Int)):=by
 have hself : ∀ (l:List S3) (c:Nat),l.length<=3->(∀ s∈l,a3K x s)->c<=1000000 ->
   ((bif (Ar.std.zle 2 (Ar.std.len (eSt l))) then
     (b4O Ar.std (eA x) (eSt l)).bind fun r7 =>
     bif r7 then
      (
       some (Ar.std.wrp .i64 (Ar.std.zadd (c:Int) 1))).bind (fun v11 =>
      some v11)
     else
      some (c:Int)
   else
    some (c:Int):Option (Int)))=some ((c+a6e x l:Nat):Int):=by
  intro l c hl hs hc;have el:Ar.std.len (eSt l)=(l.length:Int):=a0Q l;unfold a6e;by_cases h2:2<=l.length
  ·have e82:=a9u hv hl hs;cases hcb:a2D x l with
   | true =>
     rw [hcb] at e82;refine cnT (by rw [el];simp;omega) (bt e82 (cnT rfl ?_));rw [wB hc];simp [h2]
   | false =>
     rw [hcb] at e82;exact cnT (by rw [el];simp;omega) (bt e82 (cnF rfl (by simp)))
  exact cnF (by rw [el];simp;omega) (by simp [h2])
 intro k
 induction k with
 | zero =>
   intro n l c hk hl hc;have el:Ar.std.len (eSt l)=(l.length:Int):=a0Q l;show b5J Ar.std (b4P Ar.std n) (eSt l) (c:Int) (eA x) (eSt St)=_;unfold b5J;refine bt (hself l c (by omega) hl (by omega)) (cnT ?_ rfl);rw [el];show decide ((l.length:Int)=3)=true;rw [decide_eq_true_eq];omega
 | succ k ih =>
   intro n l c hk hl hc;have el:Ar.std.len (eSt l)=(l.length:Int):=a0Q l;show b5J Ar.std (b4P Ar.std (n+k+1)) (eSt l) (c:Int) (eA x) (eSt St)=_;let g:S3->Nat:=fun s=>if okN x l s=true then b6V x St k (l++[s]) else 0
   have hcnt:b6V x St (k+1) l=a6e x l+(St.map g).sum:=rfl;have hpre : ∀ i,((St.take i).map g).sum<=(St.map g).sum:=by
    intro i
    conv=>rhs;rw [<-List.take_append_drop i St,List.map_append,List.sum_append]
    omega
   have key:=a0D (step:=b0o Ar.std (eSt l) (eA x) (eSt St) (b4P Ar.std (n+k+1))) St.length (fun (_:Unit) (i:Nat)=>((i:Int),((c+a6e x l+((St.take i).map g).sum:Nat):Int))) (fun _ _=>True)
    (fun _=>(Sum.inl ((c+a6e x l+(St.map g).sum:Nat):Int):Int⊕Int))
    (fun i _ hi _=>by
     refine ⟨(),trivial,?_⟩;have hz:=zp1 hi;generalize St[i]=s at hz;have hsO:a3K x s:=hSt s (List.mem_of_getElem? hz);have hsum:((St.take (i+1)).map g).sum=((St.take i).map g).sum+g s:=by
      rw [a0i hz];simp
     have hle:=hpre (i+1);rw [hsum] at hle
     have hb1:((bif (Ar.std.zlt 0 (Ar.std.len (eSt l))) then
       (gt Ar.std (cG (lc (cI .i64) (lc (cI .i64) (l1 (cI .i64))))) (eSt l) (Ar.std.wrp .i64 (Ar.std.zsub (Ar.std.len (eSt l)) 1))).bind fun (a70,a71,a72) =>
       (N84 Ar.std a70 a71 a72).bind fun (r77,r78) =>
       (N85 Ar.std (s.1:Int) (s.2.1:Int) (s.2.2:Int)).bind fun (r80,r81) =>
       (b3x Ar.std (eA x) r77 r78 r80 r81).bind fun r83 =>
       some (!r83)
      else
       some false:Option (Bool)))=some (!okN x l s):=by
      unfold okN;by_cases hl0:0<l.length
      ·have hlast:l[l.length-1]?=some (l[l.length-1]'(by omega)):=zp1 _;have hgl:l.getLast?=some (l[l.length-1]'(by omega)):=by rw [List.getLast?_eq_getElem?];exact hlast
       generalize l[l.length-1]'(by omega)=u at hlast hgl;have huO:=hl u (List.mem_of_getElem? hlast);have ei:Ar.std.wrp .i64 (Ar.std.zsub (Ar.std.len (eSt l)) 1)=((l.length-1:Nat):Int):=by
        rw [el];simp only [a0m,a0J];rw [a3v _ (by omega) (by omega)];omega
       rw [hgl,ei];exact cnT (by rw [el];simp;omega) (bt (a3h hlast) (bt rfl (bt rfl (bt (a9r huO.2.1 hsO.1) rfl))))
      have hln:l=[]:=List.eq_nil_of_length_eq_zero (by omega);subst hln;exact cnF (by rw [el];simp) rfl
     unfold b0o jn;refine cnT (by rw [a0Q];simp;omega) (bt (a3h hz) (bt hb1 ?_));cases hok:okN x l s with
     | false =>
       have hg:g s=0:=by simp only [g,hok];rfl
       refine cnT rfl ?_;rw [wS (by omega),hsum,hg]
       rfl
     | true =>
       have hg:g s=b6V x St k (l++[s]):=by simp only [g,hok];rfl
       have hih:=ih n (l++[s]) (c+a6e x l+((St.take i).map g).sum) (by simp;omega) (fun u hu=>by
        rcases List.mem_append.1 hu with h | h
        ·exact hl u h
        simp at h;subst h;exact hsO) (by rw [<-hg];omega)
       have e1:sl Ar.std (eSt l) 0 (Ar.std.len (eSt l))=some (eSt l):=by
        rw [el,b3g (Nat.le_refl _),List.take_length]
       refine cnF rfl (bt e1 (bck (by simp) (bt (b0g s (by omega)) (bt hih (cnT rfl ?_)))));rw [wS (by omega),hsum,hg,Nat.add_assoc])
    (fun _ _=>by
     unfold b0o;rw [List.take_length];exact cnF (by rw [a0Q];simp) rfl) () trivial
   obtain ⟨_,_,hit⟩:=key;rw [List.take_zero] at hit;unfold b5J;refine bt (hself l c (by omega) hl (by omega)) (cnF ?_ (bt (show iter (b0o Ar.std (eSt l) (eA x) (eSt St) (b4P Ar.std (n+k+1))) (0,((c+a6e x l:Nat):Int))=_ from hit) ?_))
   ·rw [el];show decide ((l.length:Int)=3)=false;rw [decide_eq_false_iff_not];omega
   rw [hcnt];show some (true,((c+a6e x l+(St.map g).sum:Nat):Int))=_;rw [Nat.add_assoc]
def x0:Ax:=[[(0,true),(1,false)],[(1,true),(0,false)]]
theorem c1A:vX x0=true:=by decide
theorem c1i:stX x0 x0.length=[(0,0,0),(0,0,1),(0,1,1),(1,0,0),(1,0,1),(1,1,1)]:=by decide
theorem b5G:b6V x0 [(0,0,0),(0,0,1),(0,1,1),(1,0,0),(1,0,1),(1,1,1)] 3 []=2:=by decide +kernel
theorem b4F:N6 Ar.std=some true:=by
 have hv:=VX.of c1A;obtain ⟨L,_,hL,e⟩:=b3e hv;have e':=b9e hv;rw [c1i] at e';have hst : ∀ s∈([(0,0,0),(0,0,1),(0,1,1),(1,0,0),(1,0,1),(1,1,1)]:List S3),a3K x0 s:=by
  intro s hs;simp only [List.mem_cons,List.not_mem_nil,or_false] at hs;unfold a3K a9q;rcases hs with rfl | rfl | rfl | rfl | rfl | rfl <;> decide
 have hall:=b6W hv hst (by decide) 3 999996 [] 0 rfl (by simp) (by rw [b5G];decide);rw [b5G] at hall;have hx:eA x0=[(.list 2 [(.agg [(.int .i64 0),(.bool true)]),(.agg [(.int .i64 1),(.bool false)])]),(.list 2 [(.agg [(.int .i64 1),(.bool true)]),(.agg [(.int .i64 0),(.bool false)])])]:=rfl;have hshort:a6A x0:=by
  refine ⟨by decide,fun l hl => ?_⟩;simp only [x0,List.mem_cons,List.not_mem_nil,or_false] at hl;rcases hl with rfl | rfl <;> decide
 have e39:=b5C hshort;rw [c1A] at e39;have e47:N47 Ar.std (eA x0) 0=some 2:=by
  unfold N47;refine bt e' (bt (v:=(true,2)) ?_ rfl);unfold N81;rw [b2s];exact hall
 unfold N6;rw [<-hx];refine bt (v:=(2,0)) ?_ (bt (v:=true) rfl rfl);unfold N23;exact bt e39 (cnT rfl (bt e47 rfl))
theorem b6X {P:Pg} (hv:VP P) {z:Int} (hk:a2j z=true) : ∃ O,IsO z.toNat P O/\N9 Ar.std (eP P) z=some (a1f O,0):=by
 rcases c0Y (VP.short hv) z with ⟨h1,_⟩ | ⟨_,h1,_⟩ | ⟨_,_,h⟩
 ·rw [VP.to hv] at h1;cases h1
 ·rw [hk] at h1;cases h1
 exact h
theorem c1j (x:Ax) (hP:x.length<9223372036854775808) (hl : ∀ t∈x,t.length<9223372036854775808) (y:List (Int×Int)):N3 Ar.std (eA x) (eF y)=some true:=by
 obtain ⟨b5,e5,h5⟩:=c1c hP hl;unfold N3;have awake : ∀ {v:Bool},v=true -> ∀ {r:Option Bool},(bif v then (N6 Ar.std).bind fun r10=>some r10 else r)=some true:=by
  rintro v rfl r;exact cnT rfl (bt b4F rfl)
 by_cases hgo:b5=true/\y.length<=40
 ·obtain ⟨hb,hy⟩:=hgo;subst hb;obtain ⟨hS,hvx,h6⟩:=h5 rfl;have hv:=VX.of hvx;refine bt (v:=false) (bt e5 (cnT rfl (by rw [a4d];simp;omega))) (cnF rfl ?_);rcases b8Y hS hvx (y:=y) (by omega) with ⟨hok,e24⟩ | e24
  ·
   obtain ⟨R,hR48,e26,hneed⟩:=b8V hv;obtain ⟨P,hM,eP8⟩:=b6U hv (y:=y) (by omega);obtain ⟨r27,h27,e27⟩:=b9d hv;have hp:=hM.valid hv h6 hok;have hvp:=VP.of hp;have e7:N7 Ar.std (eA x) (eF y)=some (R.all (b0Y y),0):=by
    unfold N7;exact bt e24 (bt (v:=R.all (b0Y y)) (cnT rfl (bt e26 (bt (b9a (by omega) (by omega)) rfl))) rfl)
   have e8:N8 Ar.std (eA x) (eF y)=some (eP P,0):=by
    unfold N8;exact bt e24 (bt (v:=false) (cnT rfl (bt e27 (by rw [a4d,h27];simp;omega))) (bt (v:=0) (cnF rfl rfl) (cnT rfl (bt eP8 rfl))))
   obtain ⟨O1,i1,e91⟩:=b6X hvp (z:=1) rfl;obtain ⟨O2,i2,e92⟩:=b6X hvp (z:=2) rfl;obtain ⟨O3,i3,e93⟩:=b6X hvp (z:=3) rfl;obtain ⟨A3,A1,j3,j1,e10⟩:=b8I (VP.short hvp) hp;obtain rfl:=j3.unique i3;obtain rfl:=j1.unique i1;have hne:=i1.ne (.inl rfl) hvp;have hpos:0<A1.length:=List.length_pos_iff.2 hne;have hsub : ∀ o∈A1,o∈A3:=fun o ho=>(i3.mem o).2 ((i1.mem o).1 ho).strict.loose;have hcnt:=b0X i3.ss.nodup i1.ss.nodup hsub;have l1:Ar.std.len (a1f A1)=(A1.length:Int):=a4a A1;have l2:Ar.std.len (a1f O2)=(O2.length:Int):=a4a O2;have l3:Ar.std.len (a1f A3)=(A3.length:Int):=a4a A3;have hbare:decide (a1X A1 A3=[])=decide (A1.length=A3.length):=by
    rw [decide_eq_decide];constructor
    ·intro h;rw [h] at hcnt;simpa using hcnt
    intro h;exact List.eq_nil_of_length_eq_zero (by omega)
   refine bt e7 (bt e8 (cnT rfl (cnT rfl (bt e91 (bt e92 (bt e93 (bt e10 (bt (v:=false) ?_ (cnF rfl (bt (v:=true) ?_ rfl))))))))))
   ·refine cnT rfl (cnT rfl (cnT rfl (cnT rfl (cnF (by rw [l1];simp;omega) ?_))));rw [l1,l3,hbare];show some (!decide (decide (A1.length=A3.length)=decide ((A1.length:Int)=(A3.length:Int))))=_;have:decide (A1.length=A3.length)=decide ((A1.length:Int)=(A3.length:Int)):=by rw [decide_eq_decide];omega
    rw [this];simp
   cases hen:R.all (b0Y y) with
   | false=>exact cnF rfl (bt b4F rfl)
   | true =>
     have hnc:NC P:=hM.nc (fun l s h1 h2 h3 h4 h5 h6=>by
      have hsR:=hneed l s h1 h2 h3 h4 h5 h6;rw [List.all_eq_true] at hen;have hh:=hen s hsR;unfold b0Y at hh;rw [List.any_eq_true] at hh;obtain ⟨⟨f1,f2⟩,hf,hh⟩:=hh;simp only [zp4,decide_eq_true_eq] at hh;obtain ⟨g1,g2,g3⟩:=hh;refine ⟨f2.toNat,by omega,by omega,?_⟩;unfold qF;rw [decide_eq_true_eq,<-g1,show ((f2.toNat:Nat):Int)=f2 by omega];exact hf)
     have h31 : ∀ o,Can 3 P o->Can 1 P o:=fun o ho=>b8M (by rw [hM.len];exact hv.n3) hnc ho;have q31:A3=A1:=a5E i3.ss i1.ss (fun o=>(i3.mem o).trans ⟨fun h=>(i1.mem o).2 (h31 o h),fun h=>((i1.mem o).1 h).strict.loose⟩);have q21:O2=A1:=a5E i2.ss i1.ss (fun o=>(i2.mem o).trans ⟨fun h=>(i1.mem o).2 (h31 o h.loose),fun h=>((i1.mem o).1 h).strict⟩);subst q31 q21;refine cnT rfl (cnT (by simp [Ar.std]) (cnT (by simp [Ar.std]) (cnT ?_ (bt b4F rfl))));rw [hbare];simp
  have e7:N7 Ar.std (eA x) (eF y)=some (false,2):=by
   unfold N7;exact bt e24 (bt (v:=false) (cnF rfl rfl) rfl)
  have e8:N8 Ar.std (eA x) (eF y)=some ([],2):=by
   unfold N8;exact bt e24 (bt (v:=false) (cnF rfl rfl) (bt (v:=2) (cnF rfl rfl) (cnF rfl rfl)))
  exact bt e7 (bt e8 (cnT rfl (cnF rfl (bt (v:=true) (cnT rfl (cnT rfl (bt b4F rfl))) rfl))))
 refine bt (v:=true) ?_ (awake rfl);refine bt e5 ?_;cases b5 with
 | false=>rfl
 | true =>
   refine cnT rfl ?_;rw [a4d];simp;have : ¬ y.length<=40:=fun h=>hgo ⟨rfl,h⟩;omega
end Go.Am
