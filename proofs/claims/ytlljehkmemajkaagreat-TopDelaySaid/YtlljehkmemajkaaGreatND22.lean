import Derived.Test.YtlljehkmemajkaaGreatND21
set_option maxRecDepth 100000
set_option maxHeartbeats 2000000
set_option linter.unusedVariables false
set_option linter.unusedSimpArgs false
set_option linter.unusedSectionVars false
namespace Go.Am
open Go
theorem c1G {l:List Ac} (hl:l.length<=100):N40 Ar.std (eT l)=some (eT l):=by
 have:=a2h (step:=b1x Ar.std (eT l)) l (fun f=>[f]) eT 0 1 (fun m=>m) (fun _ _=>by simp) (fun i f M hf hi hM=>by
  obtain ⟨a,b,c⟩:=f;unfold b1x;refine cnT (by rw [a0K];simp;omega) (bt (a0B hf) (bt (b9b (a,b,c) (by omega)) ?_));rw [wS (by omega)]) (fun m=>by
  unfold b1x;exact cnF (by rw [a0K];simp) rfl) (M:=[]) (Nat.le_refl _)
 rw [List.nil_append,List.flatMap_singleton'] at this;unfold N40;exact bt (show iter (b1x Ar.std (eT l)) ([],0)=_ from this) rfl
section
variable {x:Ax} (hv:VX x) {c:List (List Int)} (hC:Cst x c) (hS:a2S x) (hvx:vX x=true)
include hv
theorem c1H {y:List (Int×Int)} (hy:okY x y):N79 Ar.std (eA x) (eF y)=some true:=by
 have hl:=a4K hv hy;have hn3:=hv.n3;have ha:=(a7C x).sublist hy;have key:=a1T (step:=b2z Ar.std (eA x) (eF y)) y (fun _=>false) (.inr ()) (.inl ()) (fun i f hf hi=>by
  obtain ⟨h1,h2,h3,h4⟩:=a4q.1 (hy.subset (List.mem_of_getElem? hf));have h5:=hv.l4 f.1.toNat;have hth:f.1.toNat<x.length:=by omega
  have e116:=a7B (x:=x) (t:=f.1.toNat) (a:=f.2.toNat) ⟨hth,by omega⟩;rw [Int.toNat_of_nonneg h1,Int.toNat_of_nonneg h3] at e116;have eg:=a2R (a0S hth);rw [Int.toNat_of_nonneg h1] at eg;have ez:Ar.std.wrp .i64 (Ar.std.zsub (Ar.std.len (eAs (thX x f.1.toNat))) 1)=((thX x f.1.toNat).length:Int)-1:=by
   rw [a0K];simp only [a0j,a0A];exact a2W _ (by omega) (by omega)
  obtain ⟨a,b⟩:=f;unfold b2z;refine cnT (by rw [a1s];simp;omega) (bt (a0B hf) (bt (v:=false) (bt e116 (cnT rfl (bt eg ?_))) (cnF rfl (bt (v:=false) ?_ (cnF rfl ?_)))))
  ·rw [ez];refine congrArg some ?_;rw [a2i,decide_eq_false_iff_not];dsimp only at h4 ⊢;omega
  ·by_cases h0:0<i
   ·have hp:=zp1 (show i-1<y.length by omega);have hlt:=List.pairwise_iff_getElem.1 ha (i-1) i (by omega) hi (by omega);have hfi:y[i]=(a,b):=by rw [zp1 hi] at hf;exact Option.some.inj hf
    rw [hfi] at hlt;generalize y[i-1]=g at hp hlt;obtain ⟨p,q⟩:=g;have ew:Ar.std.wrp .i64 (Ar.std.zsub (i:Int) 1)=((i-1:Nat):Int):=by simp only [a0j,a0A];rw [a2W _ (by omega) (by omega)];omega
    refine cnT (by simp;omega) ?_;rw [ew];refine bt (a0B hp) ?_;have hlt':p<a\/(p=a/\q<b):=hlt;rcases hlt' with h | ⟨h,h'⟩
    ·exact cnF (by simp;omega) (cnF (by simp;omega) rfl)
    exact cnF (by simp;omega) (cnT (by simp;omega) (by simp;omega))
   exact cnF (by simp;omega) rfl
  ·rw [wS (by omega)];rfl) (by
  unfold b2z;exact cnF (by rw [a1s];simp) rfl)
 have h0:(y.any fun _=>false)=false:=by simp
 rw [h0] at key;unfold N79;exact bt key rfl
theorem c1I (hS:a2S x) (hvx:vX x=true):N15 Ar.std (eA x)=some (eSt (a1u x),0):=by
 have e39:=b0K hS;rw [hvx] at e39;have h18:=b1d hv;unfold N15;exact bt e39 (cnT rfl (bt (b0O hv) (bt (c1G (by simp;omega)) rfl)))
include hC hS hvx
theorem c1J (e11:N11 Ar.std (eA x) (a1d c)=some true) {y:List (Int×Int)} (hy:okY x y):N17 Ar.std (eA x) (a1d c) (eF y)=some (a1n c y,0):=by
 have e22:=b4r hS;rw [hvx] at e22;have e44:N44 Ar.std (eA x) (eF y)=some 0:=by
  unfold N44;exact bt e22 (cnT rfl (bt (c1H hv hy) (cnT rfl rfl)))
 unfold N17;exact bt e44 (cnT rfl (bt e11 (cnT rfl (bt (c1x hv hC hy) rfl))))
theorem c1K (e11:N11 Ar.std (eA x) (a1d c)=some true) {ps:List Int} (hl:ps.length=(a1u x).length) (hp : ∀ n∈ps,0<=n/\n<=100) (hf : ∀ f∈a3i x,paid f (((a1u x).map sI).zip ps)<=a1t c f)
  {k:Int} (h0:0<=k) (h1:k<=1000) (hk:k<=ps.sum):N16 Ar.std (eA x) (a1d c) (ps.map I) k=some (true,0):=by
 have e22:=b4r hS;rw [hvx] at e22;have e41:N41 Ar.std (eA x) (a1d c)=some 0:=by
  unfold N41;exact bt e22 (cnT rfl (bt e11 (cnT rfl rfl)))
 have h18:=b1d hv;have e42:N42 Ar.std (eA x)=some (((a1u x).map sI).map a5p):=c1t hv;have e19:N19 Ar.std (eA x)=some ((a3i x).map a6w):=b7C hv;have hfl:=a4r hv;have hin : ∀ f∈a3i x,_:=fun f hf=>a4s hv hC hf;have hlN:((a1u x).map sI).length=(a1u x).length:=List.length_map ..;generalize (a1u x).map sI=N at hf e42 hlN;generalize a3i x=F at hf e19 hfl hin;have key:=a1T (step:=b2y Ar.std (a1d c) (ps.map I) (N.map a5p) (F.map a6w)) F (fun _=>false) (.inr ()) (.inl ()) (fun i f hg hi=>by
  have hm:=List.mem_of_getElem? hg;obtain ⟨e1,e2,_,_⟩:=hin f hm;have hle:=hf f hm;unfold b2y;refine cnT (ltM hi) (bt (b7E hg) (bt (b6z (by omega) (by omega) hp f) (bt e1 (bt e2 (cnF ?_ ?_)))))
  ·rw [a0R];exact decide_eq_false (by omega)
  ·rw [b9k hi (by omega)];rfl) (by
  unfold b2y;exact cnF geM rfl)
 have h0':(F.any fun _=>false)=false:=by simp
 rw [h0'] at key;unfold N16;refine bt e41 (cnT rfl (bt e42 (bt (v:=false) (cnT (by simp;omega) (cnF ?_ ?_)) (cnF rfl (bt (b6y ps (by omega) hp) ?_)))))
 ·rw [a0R];exact decide_eq_false (by omega)
 ·refine congrArg some ?_;rw [a0R];exact decide_eq_false (by omega)
 rw [Sum.elim_inl];refine bt e19 (bt key ?_);rw [cond_false,Sum.elim_inl,a1X,decide_eq_true hk]
end
theorem c3N (x:Ax) (hP:x.length<9223372036854775808) (hl : ∀ t∈x,t.length<9223372036854775808) (c:List (List Int)) (hc:c.length<9223372036854775808):N4 Ar.std (eA x) (a1d c)=some true:=by
 obtain ⟨b5,e5,h5⟩:=c3E hP hl;unfold N4;have awake : ∀ {v:Bool},v=true -> ∀ {r:Option Bool},(bif v then (N6 Ar.std).bind fun r12=>some r12 else r)=some true:=by
  rintro v rfl r;exact cnT rfl (bt b9g rfl)
 cases b5 with
 | false=>exact bt (v:=true) (bt e5 rfl) (awake rfl)
 | true =>
   obtain ⟨hS,hvx,h6⟩:=h5 rfl;have hv:=VX.of hvx;obtain ⟨b,e11,hb⟩:=c1w hv hc;cases b with
   | false=>exact bt (v:=true) (bt e5 (cnT rfl (bt e11 rfl))) (awake rfl)
   | true =>
     have hC:=hb rfl;obtain ⟨S,s1,s2,s3,e12,e13⟩:=b6p hv hC hS hvx;obtain ⟨out,e14,o1,o2,o3,T,t1,t2,t3⟩:=c1F hv hC hS hvx;have e15:=c1I hv hS hvx;have hcl:=a9R hv hC (y:=S) (fun f hf=>s1.subset hf);have h12:=a4K hv s1;have e16:=c1K hv hC hS hvx e11 o1 o2 o3 (k:=a1n c S) (by omega) (by omega) (Int.le_trans (s3 T t1 t2) t3);have e17:=c1J hv hC hS hvx e11 s1;obtain ⟨O,⟨q1,q2⟩,hO⟩:=c1v hv hS hvx h6;have e46:=b0R q1 q2;have w1:=hO (a3i x) (List.Sublist.refl _) (a6Q hv hC);have w2:=hO S s1 s2;have h18:=b1d hv;refine bt (v:=false) (bt e5 (cnT rfl (bt e11 rfl))) (cnF rfl ?_);refine bt e12 (bt e13 (bt e14 (bt e15 ?_)));refine bt (v:=false) (cnT rfl (cnT rfl (cnT rfl rfl))) (cnF rfl ?_);refine bt e16 (bt e17 ?_);refine bt (v:=false) (cnT rfl (cnT rfl (cnT rfl ?_))) (cnF rfl ?_)
     ·refine congrArg some ?_;rw [a2i,decide_eq_true rfl];rfl
     refine bt (b7C hv) (bt w1 (bt w2 ?_));refine bt (v:=false) (cnT rfl (cnT rfl (bt e46 rfl))) (cnF rfl ?_);cases hz:Ar.std.zeq (Ar.std.len (eSt (a1u x))) 0 with
      | false=>exact cnF rfl (bt b9g rfl)
      | true =>
        have hn:a1u x=[]:=by
         rw [a2i,decide_eq_true_eq] at hz;rw [a0K,List.length_map] at hz;exact List.eq_nil_of_length_eq_zero (by omega)
        have k1:okY x []:=List.nil_sublist _;have k2:enB x []=true:=by unfold enB;rw [hn];rfl
        have w3:=hO [] k1 k2;have hz0:a1n c S=0:=by
         have h1:=s3 [] k1 k2;have h2:a1n c []=0:=rfl;omega
        refine cnT rfl (bt w3 (bt (v:=true) (cnT rfl (cnT ?_ (bt e46 (cnT rfl (bt b9g rfl))))) rfl));rw [hz0];rfl
end Go.Am
