/- Own text: JL50. -/
import Derived.Test.YtkjeamngjnfpkaaJL42
import Derived.Test.YtkjeamngjnfpkaaJH20
set_option maxRecDepth 100000
set_option maxHeartbeats 2000000
set_option linter.unusedVariables false
set_option linter.unusedSimpArgs false
set_option linter.unusedSectionVars false
namespace Go.Am
open Go
theorem endsS_run {c:Code} {u:Tab} {mks:List Int} : ∀ (k:Nat) (m:Mc) (sch:List Int),∀ e∈endsS c u mks k m sch,
  ∃ r,e.2=sch++r/\r.length<=k/\runS c u mks r m=(e.1,true)
 | 0,m,sch,e,he=>by
   unfold endsS at he
   rw [List.mem_singleton] at he;subst he
   exact ⟨[],by simp,Nat.le_refl _,rfl⟩
 | k+1,m,sch,e,he=>by
   unfold endsS at he
   cases ho:overM u m with
   | true =>
     rw [ho,cond_true,List.mem_singleton] at he;subst he
     exact ⟨[],by simp,Nat.zero_le _,rfl⟩
   | false =>
     rw [ho,cond_false] at he
     obtain ⟨t,h1,h2⟩:=List.mem_flatMap.1 he
     obtain ⟨r,e1,e2,e3⟩:=endsS_run k _ _ e h2
     refine ⟨t::r,by rw [e1];simp,by simp;omega,?_⟩
     unfold runS
     rw [leftM_has h1]
     exact e3
theorem run_endsS {c:Code} {u:Tab} {mks:List Int} : ∀ (r:List Int) (m:Mc) (k:Nat) (sch:List Int),(runS c u mks r m).2=true->r.length<=k->(overM u (runS c u mks r m).1=true\/r.length=k) ->
  ((runS c u mks r m).1,sch++r)∈endsS c u mks k m sch
 | [],m,0,sch,_,_,_=>by
   unfold endsS
   rw [List.append_nil];exact List.mem_singleton.2 rfl
 | [],m,k+1,sch,_,_,ho=>by
   have ho:overM u m=true:=ho.resolve_right (by simp)
   unfold endsS
   rw [ho,List.append_nil]
   exact List.mem_singleton.2 rfl
 | t::r,m,0,_,_,hl,_=>by simp at hl
 | t::r,m,k+1,sch,hd,hl,ho=>by
   unfold runS at hd ho ⊢
   cases ht:hasM u t m with
   | false=>rw [ht] at hd;cases hd
   | true =>
     rw [ht,cond_true] at hd ho
     rw [cond_true]
     have hm:=has_left ht
     have hov:overM u m=false:=by
      unfold overM
      cases hq:leftM u m with
      | nil=>rw [hq] at hm;cases hm
      | cons _ _=>rfl
     unfold endsS
     rw [hov,cond_false]
     have:=run_endsS r (stepM c u mks t.toNat m) k (sch++[t]) hd (by simpa using hl) (ho.imp id (by simp))
     rw [List.append_assoc] at this
     exact List.mem_flatMap.2 ⟨t,hm,this⟩
theorem endsS_ne {c:Code} {u:Tab} {mks:List Int} : ∀ (k:Nat) (m:Mc) (sch:List Int),∃ e,e∈endsS c u mks k m sch
 | 0,m,sch=>⟨_,List.mem_singleton.2 rfl⟩
 | k+1,m,sch=>by
   unfold endsS
   cases ho:overM u m with
   | true=>exact ⟨_,List.mem_singleton.2 rfl⟩
   | false =>
     rw [cond_false]
     cases hq:leftM u m with
     | nil=>unfold overM at ho;rw [hq] at ho;cases ho
     | cons t r =>
       obtain ⟨e,he⟩:=endsS_ne (c:=c) (mks:=mks) k (stepM c u mks t.toNat m) (sch++[t])
       exact ⟨e,List.mem_flatMap.2 ⟨t,List.mem_cons_self,he⟩⟩
theorem firstB_none {s:Spec} {L:List MS} (h:firstB s L=none) : ∀ e∈L,linB s e.1.h=true:=by
 intro e he
 have:=List.find?_eq_none.1 h e he
 simpa using this
theorem firstB_all {s:Spec} {L:List MS} (h : ∀ e∈L,linB s e.1.h=true):firstB s L=none :=
 List.find?_eq_none.2 fun e he=>by rw [h e he];simp
section
variable {s:Spec} {c:Code} {u:Tab} (hv:vCode c=true) (hu:vUse c u=true) (hk:specOk s=true) (ho:s.2.1=(c.length:Int))
include hv hu
theorem run_ok (sch:List Int) (hl:sch.length<=12):MInv c u (runS c u [] sch mc0).1/\TInv c u (runS c u [] sch mc0).1/\(runS c u [] sch mc0).1.st<=12:=by
 obtain ⟨a,b,_,_⟩:=runS_all (mks:=[]) (.inl rfl) hv hu sch mc0 (minv0 c u) (tinv0 c u) mki0 tmk0
 refine ⟨a,b,?_⟩
 have:=runS_len c u [] sch mc0 (minv0 c u) (.inl rfl) hv hu
 have h0:mc0.st=0:=rfl
 omega
include hk ho
theorem lin_begin (sch:List Int) (hl:sch.length<=12) (hd:(runS c u [] sch mc0).2=true) (k:Nat) (hkl:k<=sch.length) (h:linB s (runS c u [] sch mc0).1.h=true):linB s (runS c u [] (sch.take k) mc0).1.h=true:=by
 obtain ⟨_,hT,hst⟩:=run_ok hv hu sch hl
 obtain ⟨_,hT',hst'⟩:=run_ok hv hu (sch.take k) (by rw [List.length_take];omega)
 have e:=(run_begin hv hu sch hd k hkl).2
 have hval:=run_valid hv hu hT hst
 have herr:=run_err hk hv hu ho hT' hst'
 unfold linB at h ⊢
 rw [zp4] at h
 rw [herr,decide_eq_true rfl,Bool.true_and]
 have h2:=h.2
 simp only [Bool.not_eq_true',List.isEmpty_eq_false_iff] at h2 ⊢
 obtain ⟨L,hL⟩:=(lin_iff hval).1 h2
 have hu':=unt_valid hval (2*(k:Int))
 have:=(lin_iff hu').2 (unt_lin hval hL (2*(k:Int)))
 rw [e] at this
 exact this
theorem first_few {n k:Nat} (hn:n<=12) (hkn:k<=n) (h:firstB s (endsS c u [] n mc0 [])=none):firstB s (endsS c u [] k mc0 [])=none:=by
 refine firstB_all fun e he => ?_
 obtain ⟨r,e1,e2,e3⟩:=endsS_run k mc0 [] e he

 obtain ⟨f,hf⟩:=endsS_ne (c:=c) (u:=u) (mks:=[]) (n-r.length) (runS c u [] r mc0).1 r
 obtain ⟨q,q1,q2,q3⟩:=endsS_run (n-r.length) _ r f hf
 have hrun:runS c u [] (r++q) mc0=(f.1,true):=by
  rw [runS_app,e3,cond_true]
  rw [e3] at q3;exact q3
 have hlen:(r++q).length<=12:=by rw [List.length_append];omega
 have hlin:linB s f.1.h=true:=by
  have hmem:f∈endsS c u [] n mc0 []:=by
   have key : ∀ (r:List Int) (m:Mc) (n:Nat) (sch:List Int),r.length<=n->(runS c u [] r m).2=true -> ∀ f∈endsS c u [] (n-r.length) (runS c u [] r m).1 (sch++r),f∈endsS c u [] n m sch:=by
    intro r
    induction r with
    | nil=>intro m n sch _ _ f hf;simpa [runS] using hf
    | cons t r ih =>
      intro m n sch hl hd f hf
      obtain ⟨n',rfl⟩ : ∃ n',n=n'+1:=⟨n-1,by simp at hl;omega⟩
      unfold runS at hd hf
      cases ht:hasM u t m with
      | false=>rw [ht] at hd;cases hd
      | true =>
        rw [ht,cond_true] at hd hf
        have hm:=has_left ht
        have hov:overM u m=false:=by
         unfold overM
         cases hq:leftM u m with
         | nil=>rw [hq] at hm;cases hm
         | cons _ _=>rfl
        unfold endsS
        rw [hov,cond_false]
        refine List.mem_flatMap.2 ⟨t,hm,ih (stepM c u [] t.toNat m) n' (sch++[t]) (by simpa using hl) hd f ?_⟩
        rw [List.append_assoc]
        simpa using hf
   exact key r mc0 n [] (by omega) (by rw [e3]) f (by simpa using hf)
  exact firstB_none h f hmem
 have:=lin_begin hv hu hk ho (r++q) hlen (by rw [hrun]) r.length (by rw [List.length_append];omega) (by rw [hrun];exact hlin)
 rw [List.take_left,e3] at this
 exact this
end
end Go.Am

namespace Go.Am
open Go
section
variable {c:Code} (hc:CodeOk c) {u:Tab} (hu':TabOk u) (hv:vCode c=true) (hu:vUse c u=true)
include hc hu' hv hu
theorem K24_eqN {N:Nat} (hN:N<=12) (x1 x2:Int) (x3 x4:List D) (bs:List Int) (hb : ∀ n∈bs,0<=n/\n<256) :
  ∃ sch,K24 Ar.std x1 x2 x3 x4 (eCode c) (eTab u) (enc (cI .u8) bs) (N:Int)=some (eInts sch,decide ((leftM u (runS c u [] sch mc0).1).length=0),true)/\sch.length<=N/\(runS c u [] sch mc0).2=true/\(overM u (runS c u [] sch mc0).1=true\/sch.length=N):=by
 have h20 : ∀ sch:List Int,sch.length<=12->(runS c u [] sch mc0).2=true->K20 Ar.std (eCode c) (eTab u) (eInts sch)=some (eInts (leftM u (runS c u [] sch mc0).1),0):=by
  intro sch hl hd
  have:=K20_eq hc hu' (sch:=sch) (Nat.lt_of_le_of_lt hl (by show 12<9223372036854775808;decide))
  unfold runOf at this
  have e:codeE c u=0:=by unfold codeE;rw [hv,hu];rfl
  have e2:doneS c u sch []=runS c u [] sch mc0:=by unfold doneS;rw [decide_eq_false (by omega)];rfl
  rw [e,e2,hd] at this
  exact this
 have key : ∀ (k i:Nat) (sch:List Int),i+k=N->sch.length=i->(runS c u [] sch mc0).2=true ->
   ∃ sch',(iter (K24L0 Ar.std (eCode c) (eTab u) (enc (cI .u8) bs) (N:Int)) (eInts sch,(i:Int))=some (.inl (eInts sch'))/\sch'.length=N \/
     (iter (K24L0 Ar.std (eCode c) (eTab u) (enc (cI .u8) bs) (N:Int)) (eInts sch,(i:Int))=some (.inr (eInts sch',true,true))/\(leftM u (runS c u [] sch' mc0).1).length=0))/\sch'.length<=N/\(runS c u [] sch' mc0).2=true:=by
  intro k
  induction k with
  | zero =>
    intro i sch hi hl hd
    refine ⟨sch,.inl ⟨iter_inr ?_,by omega⟩,by omega,hd⟩
    unfold K24L0
    exact cnF (by simp;omega) rfl
  | succ k ih =>
    intro i sch hi hl hd
    have h12:Ar.std.zlt (i:Int) (N:Int)=true:=by simp;omega
    have hC:=h20 sch (by omega) hd
    by_cases hn:(leftM u (runS c u [] sch mc0).1).length=0
    ·refine ⟨sch,.inr ⟨iter_inr ?_,hn⟩,by omega,hd⟩
     unfold K24L0
     exact cnT h12 (bt hC (cnT rfl (cnT (by simp [List.length_eq_zero_iff.1 hn]) rfl)))
    ·obtain ⟨p,hp,hpick⟩ : ∃ p,p∈leftM u (runS c u [] sch mc0).1/\((gc Ar.std (cI .i64) (eInts (leftM u (runS c u [] sch mc0).1)) 0).bind fun a47 =>
       (bif Ar.std.zlt (i:Int) (Ar.std.len (enc (cI .u8) bs)) then
        (gt Ar.std (cI .u8) (enc (cI .u8) bs) (i:Int)).bind fun a51 =>
        (nk (Ar.std.zeq (Ar.std.len (eInts (leftM u (runS c u [] sch mc0).1))) 0)).bind fun _ =>
        (gt Ar.std (cI .i64) (eInts (leftM u (runS c u [] sch mc0).1)) (Ar.std.rem (Ar.std.wrp .i64 a51) (Ar.std.len (eInts (leftM u (runS c u [] sch mc0).1))))).bind fun a57 =>
        some a57
       else some a47:Option Int))=some p:=by
      generalize leftM u (runS c u [] sch mc0).1=l at hn
      have h0:0<l.length:=by omega
      have e0:gc Ar.std (cI .i64) (eInts l) 0=some l[0]:=gc_enc (c:=cI .i64) (i:=0) (zp1 h0)
      by_cases hib:i<bs.length
      ·have hbi:=hb _ (zp6 hib)
       have e1:gt Ar.std (cI .u8) (enc (cI .u8) bs) (i:Int)=some bs[i]:=gt_enc (zp1 hib)
       generalize bs[i]=b at hbi e1
       have hw:IntKind.i64.wrap b=b:=w64 (by omega) (by omega)
       have hq0:0<=b.tmod (l.length:Int):=by rw [Int.tmod_eq_emod_of_nonneg hbi.1];exact Int.emod_nonneg _ (by omega)
       have hq1:b.tmod (l.length:Int)<l.length:=by rw [Int.tmod_eq_emod_of_nonneg hbi.1];exact Int.emod_lt_of_pos _ (by omega)
       have hlt:(b.tmod (l.length:Int)).toNat<l.length:=by omega
       refine ⟨l[(b.tmod (l.length:Int)).toNat],zp6 hlt,bt e0 (cnT (by simp;exact hib) (bt e1 (bt (nk_of (by rw [len_enc];exact decide_eq_false (by omega))) ?_)))⟩
       simp only [std_rem,std_wrp,hw,len_enc]
       exact bt (gt_encI (c:=cI .i64) hq0 (zp1 hlt)) rfl
      ·exact ⟨l[0],zp6 h0,bt e0 (cnF (by simp;omega) rfl)⟩
     have hh:=leftM_has hp
     have hh':=hh
     simp only [hasM,zp4,btw_true,decide_eq_true_eq] at hh'
     have hd2:(runS c u [] (sch++[p]) mc0).2=true:=by
      rw [runS_app,hd,cond_true]
      unfold runS
      rw [hh];rfl
     obtain ⟨sch',hs1,hs2,hs3⟩:=ih (i+1) (sch++[p]) (by omega) (by simp [hl]) hd2
     have hstep:K24L0 Ar.std (eCode c) (eTab u) (enc (cI .u8) bs) (N:Int) (eInts sch,(i:Int))=some (.inl (eInts (sch++[p]),((i+1:Nat):Int))):=by
      unfold K24L0
      refine cnT h12 (bt hC (cnT rfl (cnF (by simp;intro h;exact hn (by rw [h];rfl)) ?_)))
      cases h47:gc Ar.std (cI .i64) (eInts (leftM u (runS c u [] sch mc0).1)) 0 with
      | none=>rw [h47] at hpick;cases hpick
      | some a47 =>
        rw [h47,bsome] at hpick
        refine bt (v:=a47) rfl (bt hpick (bt (v:=false) (cnF (decide_eq_false (by omega)) (by rw [len_eTab];exact congrArg some (decide_eq_false (by omega)))) (cnF rfl (bt (ap_enc1 (c:=cI .i64) rfl (by omega)) ?_))))
        simp only [std_wrp,std_zadd]
        rw [w64 (by omega) (by omega)];rfl
     refine ⟨sch',?_,hs2,hs3⟩
     rw [iter_inl hstep]
     exact hs1
 obtain ⟨sch,h1,h2,h3⟩:=key N 0 [] (by omega) rfl rfl
 have hov:overM u (runS c u [] sch mc0).1=true\/sch.length=N:=by
  rcases h1 with h1 | ⟨h1,hn⟩
  ·exact .inr h1.2
  ·exact .inl (by unfold overM;rw [List.length_eq_zero_iff.1 hn];rfl)
 refine ⟨sch,?_,h2,h3,hov⟩
 unfold K24
 rcases h1 with ⟨h1,_⟩ | ⟨h1,hn⟩
 ·refine bt h1 (bt (h20 sch (by omega) h3) ?_)
  dsimp only
  rw [len_enc]
  have:Ar.std.zeq ((leftM u (runS c u [] sch mc0).1).length:Int) 0=decide ((leftM u (runS c u [] sch mc0).1).length=0):=by
   simp only [std_zeq];exact decide_eq_decide.2 ⟨fun h=>by omega,fun h=>by omega⟩
  rw [this];rfl
 ·refine bt h1 ?_
  rw [hn];rfl
end
theorem mod13 {x:Int} (h:0<=x/\x<256):Ar.std.rem (Ar.std.wrp .i64 x) 13=x%13:=by
 simp only [std_rem,std_wrp]
 rw [i64w _ (by omega) (by omega),Int.tmod_eq_emod_of_nonneg h.1]
theorem K6_ok (s:Spec) (hs:TabOk s.2.2.1/\TabOk s.2.2.2) (c:Code) (hc:CodeOk c) (u:Tab) (hut:TabOk u) (x y:Int) (hx:0<=x/\x<256) (hy:0<=y/\y<256) (ps:List Int) (hp : ∀ n∈ps,0<=n/\n<256) :
  K6 Ar.std s.1 s.2.1 (eTab s.2.2.1) (eTab s.2.2.2) (eCode c) (eTab u) x y (enc (cI .u8) ps)=some true:=by
 obtain ⟨n,k,hkn,hn,e1,e2⟩ : ∃ n k:Nat,k<=n/\n<=12/\Ar.std.zmax (Ar.std.rem (Ar.std.wrp .i64 x) 13) (Ar.std.rem (Ar.std.wrp .i64 y) 13)=(n:Int)/\Ar.std.zmin (Ar.std.rem (Ar.std.wrp .i64 x) 13) (Ar.std.rem (Ar.std.wrp .i64 y) 13)=(k:Int):=by
  rw [mod13 hx,mod13 hy]
  have x1:=Int.emod_nonneg x (by decide:(13:Int)≠0)
  have x2:=Int.emod_lt_of_pos x (by decide:(0:Int)<13)
  have y1:=Int.emod_nonneg y (by decide:(13:Int)≠0)
  have y2:=Int.emod_lt_of_pos y (by decide:(0:Int)<13)
  refine ⟨(Ar.std.zmax (x%13) (y%13)).toNat,(Ar.std.zmin (x%13) (y%13)).toNat,?_⟩
  rw [std_zmax,std_zmin]
  split <;> split <;> refine ⟨?_,?_,?_,?_⟩ <;> omega
 unfold K6
 refine bt (v:=bif isCaseB s c u then decide (60<(ps.length:Int)) else true) (bt (K23_eq s hs c hc u hut) ?_) ?_
 ·cases isCaseB s c u with
  | true=>simp only [cond_true,len_enc,std_zlt]
  | false=>rfl
 cases hcase:isCaseB s c u with
 | false=>exact cnT rfl (bt K10_eq rfl)
 | true =>
   rw [cond_true]
   cases hbig:decide (60<(ps.length:Int)) with
   | true=>exact cnT rfl (bt K10_eq rfl)
   | false =>
     simp only [isCaseB,zp4,decide_eq_true_eq] at hcase
     obtain ⟨_,hv,hk,ho,hu⟩:=hcase
     have hspec:specE s c u=0:=by unfold specE;rw [hv,hk,hu,decide_eq_true ho];rfl
     have hcode:codeE c u=0:=by unfold codeE;rw [hv,hu];rfl
     have n13:nk (Ar.std.zeq 13 0)=some ():=rfl
     have hbrk : ∀ j:Nat,j<=12->brkR s c u (j:Int)=(match firstB s (endsS c u [] j mc0 []) with | none=>([],5) | some e=>(e.2,0)):=fun j hj=>by
      unfold brkR
      rw [hspec,(btw_true _ _ _).2 (⟨by omega,by omega⟩:(0:Int)<=(j:Int)/\(j:Int)<=12),Int.toNat_natCast];rfl
     have hdone : ∀ l:List Int,l.length<=12->doneS c u l []=runS c u [] l mc0:=fun l hl=>by unfold doneS;rw [decide_eq_false (by omega)];rfl
     have hbreak : ∀ l:List Int,l.length<=12->(runS c u [] l mc0).2=true->breakR s c u l=(!linB s (runS c u [] l mc0).1.h,0):=fun l hl hd=>by
      unfold breakR
      rw [hspec,hdone l hl,hd];rfl
     have hlg : ∀ l:List Int,l.length<=12->l.length<Lg:=fun l hl=>Nat.lt_of_le_of_lt hl (by decide)
     obtain ⟨sch,e24,hsl,hd,hov⟩:=K24_eqN hc hut hv hu hn s.1 s.2.1 (eTab s.2.2.1) (eTab s.2.2.2) ps hp
     have hmem:=run_endsS (c:=c) (u:=u) (mks:=[]) sch mc0 n [] hd hsl hov

     have hrest : ∀ b:Bool,(b=true->linB s (runS c u [] sch mc0).1.h=true) ->
       ((K24 Ar.std s.1 s.2.1 (eTab s.2.2.1) (eTab s.2.2.2) (eCode c) (eTab u) (enc (cI .u8) ps) (n:Int)).bind fun (r58,r59,r60) =>
       bif r60 then
        (K34 Ar.std s.1 s.2.1 (eTab s.2.2.1) (eTab s.2.2.2) (eCode c) (eTab u) r58).bind fun (r63,r64) =>
        (K13 Ar.std (eCode c) (eTab u) r58).bind fun (r66,r67) =>
        ((
         bif (Ar.std.zeq r64 0) then
          some (!(Ar.std.zeq r67 0))
         else
          some true:Option (Bool))).bind fun v69 =>
        bif v69 then
         some false
        else
         (K35 Ar.std [(.agg [(.int .i64 s.1),(.int .i64 s.2.1),(.list 1 (eTab s.2.2.1)),(.list 1 (eTab s.2.2.2))])] r66).bind fun (r73,r74) =>
         ((
          bif (Ar.std.zeq r74 0) then
           bif (Ar.std.beq r63 (!r73)) then
            bif b then
             bif r63 then
              some false
             else
              (K10 Ar.std).bind fun r81 =>
              some r81
            else
             (K10 Ar.std).bind fun r83 =>
             some r83
           else
            some false
          else
           some false:Option (Bool))).bind fun v84 =>
         some v84
       else
        some false)=some true:=by
      intro b hb
      have hS:=specs1 hs
      obtain ⟨hM,hT,hst⟩:=run_ok hv hu sch (by omega)
      have h6:=run6 hv hu hT
      have herr:=run_err hk hv hu ho hT hst
      have hlin:linB s (runS c u [] sch mc0).1.h=(decide (errH [s] (runS c u [] sch mc0).1.h=0) && !(ords0 [s] (runS c u [] sch mc0).1.h).isEmpty):=rfl
      have e34:=K34_eq hs hc hut (hlg sch (by omega))
      rw [hbreak sch (by omega) hd] at e34
      have e13:=K13_eq hc hut (hlg sch (by omega))
      rw [runOf_ok hv hu sch (by omega) hd] at e13
      have e35:=K35_eq [s] (runS c u [] sch mc0).1.h hS (Nat.lt_of_le_of_lt h6.1 (by decide))
      rw [<-hlin,herr] at e35
      refine bt e24 (cnT rfl (bt e34 (bt e13 (bt (v:=false) (cnT rfl rfl) (cnF rfl (bt e35 (bt (v:=true) (cnT rfl ?_) rfl)))))))
      generalize linB s (runS c u [] sch mc0).1.h=q at hb
      refine cnT (by cases q <;> rfl) ?_
      cases b with
      | true=>have hq:=hb rfl;subst hq;exact bt K10_eq rfl
      | false=>exact bt K10_eq rfl
     have e32n:=K32_eq hs hc hut (n:Int)
     have e32k:=K32_eq hs hc hut (k:Int)
     have e33n:=K33_eq hs hc hut (n:Int)
     unfold sndR at e32n e32k
     rw [hbrk n hn] at e32n e33n
     rw [hbrk k (by omega)] at e32k
     refine cnF rfl (bt n13 (bt n13 ?_))
     rw [e1,e2]
     cases hf:firstB s (endsS c u [] n mc0 []) with
     | none =>
       rw [hf] at e32n e33n
       rw [first_few hv hu hk ho hn hkn hf] at e32k
       refine bt e32n (bt e32k (bt e33n (bt (v:=(true,false)) rfl (cnF rfl ?_))))
       unfold jn
       exact hrest true (fun _=>firstB_none hf _ hmem)
     | some f =>
       rw [hf] at e32n e33n
       have hfm:f∈endsS c u [] n mc0 []:=List.mem_of_find?_eq_some hf
       have hfl:linB s f.1.h=false:=by
        have:=List.find?_some hf
        simpa using this
       obtain ⟨r,q1,q2,q3⟩:=endsS_run n mc0 [] f hfm
       rw [List.nil_append] at q1
       have e34:=K34_eq hs hc hut (hlg f.2 (by rw [q1];omega))
       rw [hbreak f.2 (by rw [q1];omega) (by rw [q1,q3]),q1,q3,hfl] at e34
       obtain ⟨b,e32b⟩ : ∃ b,K32 Ar.std s.1 s.2.1 (eTab s.2.2.1) (eTab s.2.2.2) (eCode c) (eTab u) (k:Int)=some (b,0):=by
        cases hg:firstB s (endsS c u [] k mc0 []) with
        | none=>rw [hg] at e32k;exact ⟨true,e32k⟩
        | some g=>rw [hg] at e32k;exact ⟨false,e32k⟩
       have e33:K33 Ar.std s.1 s.2.1 (eTab s.2.2.1) (eTab s.2.2.2) (eCode c) (eTab u) (n:Int)=some (eInts r,0):=by rw [e33n,<-q1]
       refine bt e32n (bt e32b (bt e33 (bt (v:=(false,false)) rfl (cnF rfl ?_))))
       unfold jn
       refine cnF (b:=false) rfl ?_
       refine bt e34 (bt (v:=false) (cnT rfl (cnT rfl ?_)) (cnF rfl (hrest false (fun h=>by cases h))))
       rw [len_enc]
       exact congrArg some (decide_eq_false (by omega))
end Go.Am
