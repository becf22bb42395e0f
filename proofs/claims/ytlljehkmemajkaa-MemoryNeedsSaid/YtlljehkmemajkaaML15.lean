import Derived.Test.YtlljehkmemajkaaML13
set_option maxRecDepth 100000
set_option maxHeartbeats 2000000
set_option linter.unusedVariables false
set_option linter.unusedSimpArgs false
set_option linter.unusedSectionVars false
namespace Go.Am
open Go
theorem live {k:Nat} (hK:Kind k) {P:Pg} (hv:VP P) : ∀ (n:Nat) (s:Sta),mu P s<n->Reach (scs k P) s0 s -> ∃ u,Reach (scs k P) s0 u/\b0G P (vw P u):=by
 intro n
 induction n with
 | zero=>intro _ h;omega
 | succ n ih =>
   intro s hn hs;have hk:=(a1t hK hv hs).1;by_cases h : ∃ u,a9u k P s u
   ·obtain ⟨u,hu⟩:=h;exact ih u (by have:=a9u.mu hK hv hk hu;omega) (.step hs ((a3l hK hv hk).2 hu))
   have hno : ∀ a,¬ Stp k P (vw P s) a:=fun a ha=>by
    obtain ⟨u,hu,_⟩:=b0K hK hv hk ha;exact h ⟨u,hu⟩
   refine ⟨s,hs,a5Q (k:=k) (fun t i ht hi hm=>hno _ (.act t i ht hi hm)) fun t ht => ?_⟩;by_cases h2:k=2
   ·cases hb:(vw P s).bf t with
    | nil=>rfl
    | cons e r=>exact absurd (Stp.out t ht h2 (by rw [hb];simp)) (hno _)
   rw [b1Q hv hk ht];exact (a4B hv hk ht).2 (hk.nb h2 t (lt3 hv ht))
theorem b5A {k:Nat} (hK:Kind k) {P:Pg} (hv:VP P) : ∃ o,Can k P o:=by
 obtain ⟨u,h1,h2⟩:=live hK hv _ s0 (Nat.lt_succ_self _) .init;exact ⟨_,_,(a1t hK hv h1).2,h2,rfl⟩
theorem IsO.ne {k:Nat} (hK:Kind k) {P:Pg} (hv:VP P) {O:List (List Int)} (h:IsO k P O):O≠[]:=by
 obtain ⟨o,ho⟩:=b5A hK hv;intro e;have:=(h.mem o).2 ho;rw [e] at this;cases this
def P0:Pg:=[[(2,0,1),(1,1,0)],[(2,1,1),(1,0,0)]]
theorem c0l:Can 2 P0 [0,0,1,1,0]:=by
 have s1:Stps 2 P0 AS.init (doA 2 P0 AS.init 0 0):=Stps.one (.act 0 0 (by decide) (by decide) ⟨rfl,fun j hj=>by omega,fun _ h=>absurd h (by decide)⟩);have s2:=s1.tail (Stp.act 1 0 (by decide) (by decide) ⟨rfl,fun j hj=>by omega,fun _ h=>absurd h (by decide)⟩)
 have s3:=s2.tail (Stp.act 0 1 (by decide) (by decide) ⟨rfl,fun j hj _=>(by cases j with
  | zero=>rfl
  | succ j=>omega),fun _ h=>absurd h (by decide)⟩)
 have s4:=s3.tail (Stp.act 1 1 (by decide) (by decide) ⟨rfl,fun j hj _=>(by cases j with
  | zero=>rfl
  | succ j=>omega),fun _ h=>absurd h (by decide)⟩)
 have s5:=s4.tail (Stp.out 0 (by decide) rfl (by intro h;cases h));have s6:=s5.tail (Stp.out 1 (by decide) rfl (by intro h;cases h));refine ⟨_,s6,?_,rfl⟩;intro t ht;have ht2:t<2:=ht;have:t=0\/t=1:=by omega
 rcases this with rfl | rfl
 ·refine ⟨fun i hi => ?_,rfl⟩;have hi2:i<2:=hi;have:i=0\/i=1:=by omega
  rcases this with rfl | rfl <;> rfl
 refine ⟨fun i hi => ?_,rfl⟩;have hi2:i<2:=hi;have:i=0\/i=1:=by omega
 rcases this with rfl | rfl <;> rfl
structure Inv0 (s:AS):Prop where
 b : ∀ t,s.bf t=[]
 a0:s.dn 0 0=true->s.ce 0=1
 a1:s.dn 1 0=true->s.ce 1=1
 c0:s.dn 0 1=true->s.dn 0 0=true
 c1:s.dn 1 1=true->s.dn 1 0=true
 r:s.dn 0 1=true->s.dn 1 1=true->s.rd 0 1=1\/s.rd 1 1=1
theorem inv0 {s:AS} (h:Stps 1 P0 AS.init s):Inv0 s:=by
 induction h with
 | refl=>exact ⟨fun _=>rfl,fun h=>absurd h (by decide),fun h=>absurd h (by decide),fun h=>absurd h (by decide),fun h=>absurd h (by decide),fun h=>absurd h (by decide)⟩
 | @tail u v h h' ih =>
   cases h' with
   | out t ht hk=>cases hk
   | act t i ht hi hm =>
     have ht2:t<2:=ht;have:t=0\/t=1:=by omega
     rcases this with rfl | rfl
     ·have hi2:i<2:=hi;have:i=0\/i=1:=by omega
      rcases this with rfl | rfl
      ·exact ⟨ih.b,fun _=>rfl,fun h=>ih.a1 h,fun _=>rfl,fun h=>ih.c1 h,fun h1 h2=>ih.r h1 h2⟩
      have hd:u.dn 0 0=true:=hm.2.1 0 (by omega) (.inl (by decide));refine ⟨ih.b,fun h=>ih.a0 h,fun h=>ih.a1 h,fun _=>hd,fun h=>ih.c1 h,fun _ h2 => .inl ?_⟩;show sn u 0 1=1;unfold sn;rw [ih.b 0];exact ih.a1 (ih.c1 h2)
     have hi2:i<2:=hi;have:i=0\/i=1:=by omega
     rcases this with rfl | rfl
     ·exact ⟨ih.b,fun h=>ih.a0 h,fun _=>rfl,fun h=>ih.c0 h,fun _=>rfl,fun h1 h2=>ih.r h1 h2⟩
     have hd:u.dn 1 0=true:=hm.2.1 0 (by omega) (.inl (by decide));refine ⟨ih.b,fun h=>ih.a0 h,fun h=>ih.a1 h,fun h=>ih.c0 h,fun _=>hd,fun h1 _ => .inr ?_⟩;show sn u 1 0=1;unfold sn;rw [ih.b 1];exact ih.a0 (ih.c0 h1)
theorem b4a : ¬ Can 1 P0 [0,0,1,1,0]:=by
 rintro ⟨s,h1,h2,h3⟩;have inv:=inv0 h1;have d0:=(h2 0 (by decide)).1 1 (by decide);have d1:=(h2 1 (by decide)).1 1 (by decide);have e:a8c P0 s=[s.rd 0 1,s.rd 1 1,s.ce 0,s.ce 1,s.ce 2]:=rfl;rw [e] at h3;simp only [List.cons.injEq] at h3;rcases inv.r d0 d1 with h | h
 ·rw [h3.1] at h;cases h
 rw [h3.2.1] at h;cases h
theorem c2h:a2W P0=true:=by decide
theorem b0R:a2q P0:=VP.short (VP.of c2h)
open Classical in
theorem b6F:M18 Ar.std=some true:=by
 have hx:GH [0,0,1,1,0]:=by show 5<_;omega
 have e1:M21 Ar.std (eP P0) 1 (a0q [0,0,1,1,0])=some (false,0):=by
  rcases b6D b0R 1 hx with ⟨h,_⟩ | ⟨_,h,_⟩ | ⟨_,_,e⟩
  ·rw [c2h] at h;cases h
  ·cases h
  rw [e];exact congrArg (fun b=>some (b,(0:Int))) (decide_eq_false b4a)
 have e2:M21 Ar.std (eP P0) 2 (a0q [0,0,1,1,0])=some (true,0):=by
  rcases b6D b0R 2 hx with ⟨h,_⟩ | ⟨_,h,_⟩ | ⟨_,_,e⟩
  ·rw [c2h] at h;cases h
  ·cases h
  rw [e];exact congrArg (fun b=>some (b,(0:Int))) (decide_eq_true c0l)
 unfold M18;exact bt e1 (bt e2 rfl)
theorem b4b (a b c:Int):M66 Ar.std a b c=some (btw a b c):=b3y a b c
theorem b6G (a:Ac):M67 Ar.std a.1 a.2.1 a.2.2=some (a6k a):=by
 obtain ⟨x,y,z⟩:=a;unfold M67 a6k;simp only [b4b,a2u];by_cases h1:x=1
 ·simp only [h1,decide_true,cond_true,Option.bind_some];by_cases h2:btw 0 y 2=true
  ·simp [h2]
  simp [h2]
 by_cases h2:x=2
 ·subst h2;simp only [decide_true,cond_true,Option.bind_some];by_cases h3:btw 0 y 2=true
  ·simp [h3]
  simp [h3]
 simp only [h1,h2,decide_false,cond_false];by_cases h3:x=3
 ·by_cases h4:y=0
  ·simp [h3,h4]
  simp [h3,h4]
 simp [h3]
theorem b7V {P:Pg} (hP:a2q P) (i:Nat):allW (P.take i)<=100:=by
 have : ∀ (Q:Pg),(∀ t∈Q,t.length<=20)->allW Q<=20*Q.length:=by
  intro Q
  induction Q with
  | nil=>intro _;simp [allW]
  | cons t Q ih =>
    intro hQ;have h1:=ih (fun t ht=>hQ t (by simp [ht]));have h2:nWk t<=20:=Nat.le_trans (List.countP_le_length) (hQ t (by simp));simp only [allW,List.map_cons,List.sum_cons,List.length_cons] at h1 ⊢;omega
 have h1:=this (P.take i) (fun t ht=>hP.2 t (List.mem_of_mem_take ht));have h2:=hP.1;simp only [List.length_take] at h1;omega
theorem b5B {t:List Ac} (ht:t.length<=20):iter (a9v Ar.std (eT t)) (0,0)=some (bif t.all a6k then .inl (nWk t:Int) else .inr ()):=by
 have key:=a2F (step:=a9v Ar.std (eT t)) t.length (fun (s:Int) i=>(s,(i:Int))) (fun i s=>s=(nWk (t.take i):Int)/\(t.take i).all a6k=true) (fun i x=>x = .inr ()/\t.all a6k=false) (fun s => .inl s)
  (fun i s hi hR=>by
   obtain ⟨rfl,hall⟩:=hR;have ha:=zp1 hi;generalize t[i]=a at ha;have hb:nWk (t.take i)<=i:=by unfold nWk;exact Nat.le_trans (List.countP_le_length) (by simp;omega)
   cases hv:a6k a with
   | true =>
     refine .inl ⟨(nWk (t.take (i+1)):Int),⟨rfl,?_⟩,?_⟩
     ·rw [a0n ha,List.all_append,hall];simp [hv]
     unfold a9v;rw [a0W];refine cnT (by simp [hi]) (bt (a0R ha) (bt (b6G a) ?_));rw [hv];refine cnT rfl (bt (v:=(nWk (t.take (i+1)):Int)) ?_ ?_)
     ·rw [a0n ha];unfold nWk at hb ⊢;rw [List.countP_append,List.countP_singleton];simp only [a0i,a0k,show wk a = !decide (a.1=3) from rfl];rw [a2Y _ (by omega) (by omega)];show (bif decide (a.1=3) then _ else _)=_
      cases decide (a.1=3) <;> simp
     simp only [a0i,a0k];rw [a1Y hi (by omega)]
   | false =>
     refine .inr ⟨.inr (),⟨rfl,?_⟩,?_⟩
     ·rw [Bool.eq_false_iff];intro h;rw [List.all_eq_true] at h;rw [h a (List.mem_of_getElem? ha)] at hv;cases hv
     unfold a9v;rw [a0W];refine cnT (by simp [hi]) (bt (a0R ha) (bt (b6G a) ?_));rw [hv];rfl)
  (fun s _=>by
   unfold a9v;rw [a0W];exact cnF (by simp) rfl) 0 ⟨by simp [nWk],by simp⟩
 rcases key with ⟨s,⟨rfl,hall⟩,h⟩ | ⟨i,x,_,⟨rfl,hall⟩,h⟩
 ·rw [List.take_length] at hall h;rw [hall];exact h
 rw [hall];exact h
theorem b6H {P:Pg} (hP:a2q P):M24 Ar.std (eP P)=some (a2W P):=by
 unfold M24;have e:btw 1 (Ar.std.len (eP P)) 3=(decide (1<=P.length)&&decide (P.length<=3)):=by
  unfold btw;simp;congr 1
  ·rw [decide_eq_decide];omega
  rw [decide_eq_decide];omega
 refine bt (b4b _ _ _) ?_;rw [e];cases hl:(decide (1<=P.length)&&decide (P.length<=3)) with
 | false=>unfold a2W;rw [hl];simp
 | true =>
   refine cnT rfl ?_;have key:=a2F (step:=b1f Ar.std (eP P)) P.length (fun (s:Int) i=>(s,(i:Int))) (fun i s=>s=(allW (P.take i):Int)/\(P.take i).all a8Y=true) (fun i x=>x = .inr ()/\P.all a8Y=false) (fun s => .inl s)
    (fun i s hi hR=>by
     obtain ⟨rfl,hall⟩:=hR;have ha:=zp1 hi;generalize hr:P[i]=r at ha;have hrm:r∈P:=List.mem_of_getElem? ha;have hl:=hP.2 r hrm;have hb:=b7V hP i;have hn:nWk r<=20:=Nat.le_trans (List.countP_le_length) hl;have hstep:b1f Ar.std (eP P) ((allW (P.take i):Int),(i:Int))=some (bif a8Y r then .inl ((allW (P.take i)+nWk r:Nat),((i+1:Nat):Int)) else .inr (.inr ())):=by
      unfold b1f;refine cnT (by simp [hi]) (bt (a1G ha) ?_);rw [a0W];unfold a8Y;by_cases h7:r.length<=7
      ·refine cnF (by simp;omega) (bt (b5B hl) ?_);rw [decide_eq_true h7,Bool.true_and];cases r.all a6k with
       | false=>rfl
       | true =>
         simp only [cond_true,Sum.elim_inl,Bool.true_and];by_cases h4:nWk r<=4
         ·rw [decide_eq_true h4];refine cnF (by simp;omega) ?_;simp only [a0i,a0k];rw [a2Y _ (by omega) (by omega),a2Y _ (by have:=hP.1;omega) (by have:=hP.1;omega)];simp
         rw [decide_eq_false h4];exact cnT (by simp;omega) rfl
      rw [decide_eq_false h7];exact cnT (by simp;omega) rfl
     cases hv:a8Y r with
     | true =>
       rw [hv] at hstep;refine .inl ⟨_,⟨?_,?_⟩,hstep⟩
       ·rw [a0n ha];simp [allW,List.map_append]
       rw [a0n ha,List.all_append,hall];simp [hv]
     | false =>
       rw [hv] at hstep;refine .inr ⟨_,⟨rfl,?_⟩,hstep⟩;rw [Bool.eq_false_iff];intro h;rw [List.all_eq_true] at h;rw [h r hrm] at hv;cases hv)
    (fun s hs=>by
     unfold b1f;exact cnF (by simp) rfl) 0 ⟨by simp [allW],by simp⟩
   unfold a2W;rcases key with ⟨s,⟨rfl,hall⟩,h⟩ | ⟨i,x,_,⟨rfl,hall⟩,h⟩
   ·rw [List.take_length] at hall h;rw [hall,hl];refine bt (v := .inl (allW P:Int)) h ?_;simp only [Sum.elim_inl,a5M,Bool.true_and,zp3];rw [decide_eq_decide];omega
   rw [hall];exact bt (v := .inr ()) h rfl
theorem IsO.sm {k:Nat} (hK:Kind k) {P:Pg} (hv:VP P) {O:List (List Int)} (h:IsO k P O) : ∀ x∈O,SmL x:=fun x hx=>by
 obtain ⟨h1,h2⟩:=Can.len hK hv ((h.mem x).1 hx);exact ⟨by omega,fun y hy=>by have:=h2 y hy;omega⟩
theorem SS.nodup {O:List (List Int)} (h:SS O):O.Nodup:=by
 unfold SS at h;exact h.imp fun {a b} hab e=>by subst e;exact a2S a hab
end Go.Am
