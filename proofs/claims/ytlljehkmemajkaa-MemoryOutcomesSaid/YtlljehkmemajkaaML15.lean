import Derived.Test.YtlljehkmemajkaaML14
set_option maxRecDepth 100000
set_option maxHeartbeats 2000000
set_option linter.unusedVariables false
set_option linter.unusedSimpArgs false
set_option linter.unusedSectionVars false
namespace Go.Am
open Go
theorem b3H (a b c:Int):M66 Ar.std a b c=some (btw a b c):=b3g a b c
theorem b6e (a:Ac):M67 Ar.std a.1 a.2.1 a.2.2=some (a6P a):=by
 obtain ⟨x,y,z⟩:=a;unfold M67 a6P;simp only [b3H,a2r];by_cases h1:x=1
 ·simp only [h1,decide_true,cond_true,Option.bind_some];by_cases h2:btw 0 y 2=true
  ·simp [h2]
  simp [h2]
 by_cases h2:x=2
 ·subst h2;simp only [decide_true,cond_true,Option.bind_some];by_cases h3:btw 0 y 2=true
  ·simp [h3]
  simp [h3]
 simp only [h1,h2,decide_false,cond_false];by_cases h3:x=3
 ·by_cases h4:y=0
  ·simp [h3,h4]
  simp [h3,h4]
 simp [h3]
theorem b7u {P:Pg} (hP:a2S P) (i:Nat):allW (P.take i)<=100:=by
 have : ∀ (Q:Pg),(∀ t∈Q,t.length<=20)->allW Q<=20*Q.length:=by
  intro Q
  induction Q with
  | nil=>intro _;simp [allW]
  | cons t Q ih =>
    intro hQ;have h1:=ih (fun t ht=>hQ t (by simp [ht]));have h2:nWk t<=20:=Nat.le_trans (List.countP_le_length) (hQ t (by simp));simp only [allW,List.map_cons,List.sum_cons,List.length_cons] at h1 ⊢;omega
 have h1:=this (P.take i) (fun t ht=>hP.2 t (List.mem_of_mem_take ht));have h2:=hP.1;simp only [List.length_take] at h1;omega
theorem b5i {t:List Ac} (ht:t.length<=20):iter (a9g Ar.std (eT t)) (0,0)=some (bif t.all a6P then .inl (nWk t:Int) else .inr ()):=by
 have key:=a2D (step:=a9g Ar.std (eT t)) t.length (fun (s:Int) i=>(s,(i:Int))) (fun i s=>s=(nWk (t.take i):Int)/\(t.take i).all a6P=true) (fun i x=>x = .inr ()/\t.all a6P=false) (fun s => .inl s)
  (fun i s hi hR=>by
   obtain ⟨rfl,hall⟩:=hR;have ha:=zp1 hi;generalize t[i]=a at ha;have hb:nWk (t.take i)<=i:=by unfold nWk;exact Nat.le_trans (List.countP_le_length) (by simp;omega)
   cases hv:a6P a with
   | true =>
     refine .inl ⟨(nWk (t.take (i+1)):Int),⟨rfl,?_⟩,?_⟩
     ·rw [a0p ha,List.all_append,hall];simp [hv]
     unfold a9g;rw [a0Q];refine cnT (by simp [hi]) (bt (a0R ha) (bt (b6e a) ?_));rw [hv];refine cnT rfl (bt (v:=(nWk (t.take (i+1)):Int)) ?_ ?_)
     ·rw [a0p ha];unfold nWk at hb ⊢;rw [List.countP_append,List.countP_singleton];simp only [a0l,a0o,show wk a = !decide (a.1=3) from rfl];rw [a2R _ (by omega) (by omega)];show (bif decide (a.1=3) then _ else _)=_
      cases decide (a.1=3) <;> simp
     simp only [a0l,a0o];rw [a3H hi (by omega)]
   | false =>
     refine .inr ⟨.inr (),⟨rfl,?_⟩,?_⟩
     ·rw [Bool.eq_false_iff];intro h;rw [List.all_eq_true] at h;rw [h a (List.mem_of_getElem? ha)] at hv;cases hv
     unfold a9g;rw [a0Q];refine cnT (by simp [hi]) (bt (a0R ha) (bt (b6e a) ?_));rw [hv];rfl)
  (fun s _=>by
   unfold a9g;rw [a0Q];exact cnF (by simp) rfl) 0 ⟨by simp [nWk],by simp⟩
 rcases key with ⟨s,⟨rfl,hall⟩,h⟩ | ⟨i,x,_,⟨rfl,hall⟩,h⟩
 ·rw [List.take_length] at hall h;rw [hall];exact h
 rw [hall];exact h
theorem b6f {P:Pg} (hP:a2S P):M24 Ar.std (eP P)=some (a3L P):=by
 unfold M24;have e:btw 1 (Ar.std.len (eP P)) 3=(decide (1<=P.length)&&decide (P.length<=3)):=by
  unfold btw;simp;congr 1
  ·rw [decide_eq_decide];omega
  rw [decide_eq_decide];omega
 refine bt (b3H _ _ _) ?_;rw [e];cases hl:(decide (1<=P.length)&&decide (P.length<=3)) with
 | false=>unfold a3L;rw [hl];simp
 | true =>
   refine cnT rfl ?_;have key:=a2D (step:=b0Q Ar.std (eP P)) P.length (fun (s:Int) i=>(s,(i:Int))) (fun i s=>s=(allW (P.take i):Int)/\(P.take i).all a9y=true) (fun i x=>x = .inr ()/\P.all a9y=false) (fun s => .inl s)
    (fun i s hi hR=>by
     obtain ⟨rfl,hall⟩:=hR;have ha:=zp1 hi;generalize hr:P[i]=r at ha;have hrm:r∈P:=List.mem_of_getElem? ha;have hl:=hP.2 r hrm;have hb:=b7u hP i;have hn:nWk r<=20:=Nat.le_trans (List.countP_le_length) hl;have hstep:b0Q Ar.std (eP P) ((allW (P.take i):Int),(i:Int))=some (bif a9y r then .inl ((allW (P.take i)+nWk r:Nat),((i+1:Nat):Int)) else .inr (.inr ())):=by
      unfold b0Q;refine cnT (by simp [hi]) (bt (a2j ha) ?_);rw [a0Q];unfold a9y;by_cases h7:r.length<=7
      ·refine cnF (by simp;omega) (bt (b5i hl) ?_);rw [decide_eq_true h7,Bool.true_and];cases r.all a6P with
       | false=>rfl
       | true =>
         simp only [cond_true,Sum.elim_inl,Bool.true_and];by_cases h4:nWk r<=4
         ·rw [decide_eq_true h4];refine cnF (by simp;omega) ?_;simp only [a0l,a0o];rw [a2R _ (by omega) (by omega),a2R _ (by have:=hP.1;omega) (by have:=hP.1;omega)];simp
         rw [decide_eq_false h4];exact cnT (by simp;omega) rfl
      rw [decide_eq_false h7];exact cnT (by simp;omega) rfl
     cases hv:a9y r with
     | true =>
       rw [hv] at hstep;refine .inl ⟨_,⟨?_,?_⟩,hstep⟩
       ·rw [a0p ha];simp [allW,List.map_append]
       rw [a0p ha,List.all_append,hall];simp [hv]
     | false =>
       rw [hv] at hstep;refine .inr ⟨_,⟨rfl,?_⟩,hstep⟩;rw [Bool.eq_false_iff];intro h;rw [List.all_eq_true] at h;rw [h r hrm] at hv;cases hv)
    (fun s hs=>by
     unfold b0Q;exact cnF (by simp) rfl) 0 ⟨by simp [allW],by simp⟩
   unfold a3L;rcases key with ⟨s,⟨rfl,hall⟩,h⟩ | ⟨i,x,_,⟨rfl,hall⟩,h⟩
   ·rw [List.take_length] at hall h;rw [hall,hl];refine bt (v := .inl (allW P:Int)) h ?_;simp only [Sum.elim_inl,a5M,Bool.true_and,zp3];rw [decide_eq_decide];omega
   rw [hall];exact bt (v := .inr ()) h rfl
theorem IsO.sm {k:Nat} (hK:Kind k) {P:Pg} (hv:VP P) {O:List (List Int)} (h:IsO k P O) : ∀ x∈O,SmL x:=fun x hx=>by
 obtain ⟨h1,h2⟩:=Can.len hK hv ((h.mem x).1 hx);exact ⟨by omega,fun y hy=>by have:=h2 y hy;omega⟩
theorem SS.nodup {O:List (List Int)} (h:SS O):O.Nodup:=by
 unfold SS at h;exact h.imp fun {a b} hab e=>by subst e;exact a2O a hab
end Go.Am
