import Derived.Test.YtkjeamngjnfpkaaGreatTL35
import Derived.Test.YtkjeamngjnfpkaaGreatZL43
set_option maxRecDepth 100000
set_option maxHeartbeats 2000000
set_option linter.unusedVariables false
set_option linter.unusedSimpArgs false
set_option linter.unusedSectionVars false
namespace Go.Am
open Go
theorem b5a {c:Code} {u:Tab} {mks:List Int} : ∀ (k:Nat) (m:Mc),a3c c u mks k m=a1J c u mks k m
 | 0,m=>rfl
 | k+1,m=>by
   show (bif a0S u m then [m] else (a0y u m).flatMap fun t=>a3c c u mks k (a0j c u mks t.toNat m))=(bif a0S u m then [m] else (a0y u m).flatMap fun t=>a1J c u mks k (a0j c u mks t.toNat m))
   simp only [b5a k]
section
variable {c:Code} (hc:a1q c) {u:Tab} (hut:a0C u) (hv:a1e c=true) (hu:a3E c u=true)
include hc hut hv hu
theorem c2d {k:Nat} (hk:k<=12) : ∃ ss:List (List Call),Z12 Ar.std (a0o c) (a0r u) (k:Int)=some (a2E ss,0)/\ss.length<=100000 /\ ∀ x,x∈ss ↔ ∃ e∈a1j c u [] k mc0 [],e.1.h=x:=by
 have h2:=b8C [] (.inl rfl) hv hu;have hcode:a3o c u=0:=by unfold a3o;rw [hv,hu];rfl
 have hlen:(a3c c u [] k mc0).length<=2 ^ 12:=Nat.le_trans (a7k (c:=c) (u:=u) (mks:=[]) h2 k mc0) (Nat.pow_le_pow_right (by decide) hk);have hp:(2:Nat) ^ 12=4096:=by decide
 have hpos:=a9X (c:=c) (u:=u) (mks:=[]) k mc0;obtain ⟨ss,a1,a2,a3,r20,n,r24,b1,b2,b3⟩:=a9Y ((a3c c u [] k mc0).map Mc.h) (by rw [List.length_map];exact hpos) (by rw [List.length_map];omega) (fun h hh=>by
  obtain ⟨e,he,rfl⟩:=List.mem_map.1 hh;obtain ⟨q1,q2,q3⟩:=a9W hv hu k mc0 (a7v c u) (b4u c u) e he;exact c4O hv hu q1 q2 (by have:mc0.st=0:=rfl;omega))
 refine ⟨ss,?_,by rw [List.length_map] at a3;omega,fun x => ?_⟩
 ·unfold Z12;refine bt (b1r c hc u hut) ?_;rw [hcode];refine cnT rfl (bt (c1W hc hut hv hu hk) (cnT rfl (bt (v:=(a0o c,a0r u)) rfl (bt (b9e hc hut hv hu hk) ?_))));refine cnT (by rw [a7Y,List.length_map];simp;omega) (bt (v:=()) (by rw [b9f];rfl) (bt b1 (bt b2 (bt b3 rfl))))
 rw [a2,b5a,<-a7h c u [] k mc0 [],List.map_map,List.mem_map]
 rfl
end
section
variable {s:Spec} (hs:a0C s.2.2.1/\a0C s.2.2.2) {c:Code} (hc:a1q c) {u:Tab} (hut:a0C u) (hv:a1e c=true) (hu:a3E c u=true) (hk:a0P s=true) (ho:s.2.1=(c.length:Int))
include hv hu hk ho
theorem b9g {m:Mc} (hT:TInv c u m) (hst:m.st<=12):a6Y [s]=true/\b1z [s] m.h=true:=a7a (b0M hk hv hu ho hT hst)
include hs
theorem b9h {m:Mc} (hT:TInv c u m) (hst:m.st<=12):Z13 Ar.std [(.agg [(.int .i64 s.1),(.int .i64 s.2.1),(.list 1 (a0r s.2.2.1)),(.list 1 (a0r s.2.2.2))])] (a0b m.h)=some (true,0):=by
 obtain ⟨ha,hf⟩:=b9g hv hu hk ho hT hst;have h6:=c2Y hv hu hT;have e1:=b4D [s] (b1F hs);have e2:=b7y [s] m.h (b1F hs) (Nat.lt_of_le_of_lt h6.1 (by decide));rw [ha,hf] at e2;have ha':(btw 1 ([s].length:Int) 2&&[s].all a0P)=true:=ha;rw [ha'] at e1;unfold Z13;exact bt e1 (cnT rfl (bt e2 rfl))
theorem b5b {m:Mc} (hT:TInv c u m) (hst:m.st<=12):Z14 Ar.std [(.agg [(.int .i64 s.1),(.int .i64 s.2.1),(.list 1 (a0r s.2.2.1)),(.list 1 (a0r s.2.2.2))])] (a0b m.h)=some (a7c s m.h,0):=by
 have h6:=c2Y hv hu hT;have e:=c1A [s] m.h (b1F hs) (Nat.lt_of_le_of_lt h6.1 (by decide));have herr:=b0M hk hv hu ho hT hst;have hlin:a7c s m.h=(decide (a5V [s] m.h=0) && !(a5X [s] m.h).isEmpty):=rfl;rw [<-hlin,herr] at e;exact e
theorem b9i (ss:List (List Call)) (hl:ss.length<=100000) (hm : ∀ x∈ss,∃ m:Mc,TInv c u m/\m.st<=12/\m.h=x) :
  iter (b9q Ar.std s.1 s.2.1 (a0r s.2.2.1) (a0r s.2.2.2) (a2E ss)) (true,0)=some (.inl (ss.all (a7c s))):=by
 obtain ⟨b,hb,e⟩:=a3C (step:=b9q Ar.std s.1 s.2.1 (a0r s.2.2.1) (a0r s.2.2.2) (a2E ss)) ss.length (fun (b:Bool) (i:Nat)=>(b,(i:Int)))
  (fun i b=>b=(ss.take i).all (a7c s)) (fun b=>(.inl b:Bool⊕Unit))
  (fun i b hi hR=>by
   have hx:=zp1 hi;obtain ⟨m,hT,hst,hmh⟩:=hm _ (zp6 hi);generalize ss[i]=x at hx hmh;subst hmh;have hg:gt Ar.std (cL 6) (a2E ss) (i:Int)=some (a0b m.h):=by
    unfold a2E;exact a0t (c:=cL 6) (by rw [List.getElem?_map,hx];rfl)
   refine ⟨b&&a7c s m.h,?_,?_⟩
   ·rw [a0J hx,List.all_append,hR];simp
   unfold b9q;refine cnT (by rw [a7Y];simp;omega) (bt hg (bt (b9h hs hv hu hk ho hT hst) (bt (b5b hs hv hu hk ho hT hst) (bt (v:=false) (cnT rfl (cnT rfl rfl)) (cnF rfl (bt (v:=b&&a7c s m.h) ?_ ?_))))))
   ·cases b <;> rfl
   simp only [a0g,a0i,a0G (i:=i) (n:=200000) (by omega) (by decide)])
  (fun b _=>by unfold b9q;exact cnF (by rw [a7Y];simp) rfl) true rfl
 rw [List.take_length] at hb;subst hb;exact e
theorem b0P {mks:List Int} (hmk:b0d c mks) (h1:(a1J c u mks 12 mc0).all (b2B s u)=true) (h2:(a1J c u [] 12 mc0).all (a0S u)=true):a1i s (a1j c u [] 12 mc0 [])=none:=by
 refine b2D fun e he => ?_;obtain ⟨r,e1,e2,e3⟩:=a5i 12 mc0 [] e he;have hov:a0S u e.1=true:=by
  have:e.1∈a1J c u [] 12 mc0:=by rw [<-a7h c u [] 12 mc0 []];exact List.mem_map_of_mem he
  exact List.all_eq_true.1 h2 _ this
 obtain ⟨hr2,her⟩:=b4O (c:=c) (u:=u) [] mks r mc0 mc0 rfl;rw [e3] at hr2 her;obtain ⟨i1,i2,i3,i4⟩:=a8E hmk hv hu r mc0 (a7v c u) (b4u c u) c4G c5p;have hst:=a8v c u mks r mc0 (a7v c u) hmk hv hu;have hends:=a9T (c:=c) (u:=u) (mks:=mks) r mc0 12 hr2.symm;generalize (a1a c u mks r mc0).1=m at *;have hov':a0S u m=true:=by
  have a:a0y u (er e.1)=a0y u (er m):=by rw [her]
  rw [b4N,b4N] at a;unfold a0S at hov ⊢;rw [<-a];exact hov
 have hh:e.1.h=m.h:=by
  have:(er e.1).h=(er m).h:=by rw [her]
  exact this
 rw [hh];have hst12:m.st<=12:=by
  have:mc0.st=0:=rfl;omega
 exact (b4Q hk hv hu ho i2 hst12 i3 i4 i1.ms hov' (List.all_eq_true.1 h1 m (hends hov' e2))).2.2
end
section
variable {c:Code} (hc:a1q c) (hv:a1e c=true) {a b d e:Int} (hm : ∀ n∈[a,b,d,e],0<=n/\n<256)
include hc hv hm
theorem b9j:iter (b7Q Ar.std (a0o c) a b d e) ([],0)=some (a0d (b6J c [a,b,d,e])):=by
 have h4:c.length<=4:=by simp only [a1e,zp4,a0n] at hv;omega
 obtain ⟨p,hp,e⟩:=a3C (step:=b7Q Ar.std (a0o c) a b d e) c.length (fun (p:List Int) (i:Nat)=>(a0d p,(i:Int)))
  (fun i p=>p=(List.range i).map (b1K c [a,b,d,e])) (fun p=>a0d p)
  (fun i p hi hR=>by
   subst hR;obtain ⟨r1,r2,r3⟩:=b4R hc hv hm hi;refine ⟨(List.range (i+1)).map (b1K c [a,b,d,e]),rfl,?_⟩;have hpl:((List.range i).map (b1K c [a,b,d,e])).length=i:=by rw [List.length_map,List.length_range]
   have hnk:nk (Ar.std.zeq (Ar.std.len (b0c (c.getD i []))) 0)=some ():=c4J (by rw [a0p,a0F,decide_eq_false_iff_not];omega);have hap : ∀ x:Int,0<=x->x<256->b1K c [a,b,d,e] i=x.tmod (((c.getD i []).length:Nat):Int) ->
     ap Ar.std (a0d ((List.range i).map (b1K c [a,b,d,e]))) [(.int .i64 (Ar.std.rem (Ar.std.wrp .i64 x) (Ar.std.len (b0c (c.getD i [])))))]=some (a0d ((List.range (i+1)).map (b1K c [a,b,d,e]))):=fun x h0 h1 hx=>by
    have e1:Ar.std.rem (Ar.std.wrp .i64 x) (Ar.std.len (b0c (c.getD i [])))=b1K c [a,b,d,e] i:=by
     rw [a8t,a0g,a8P _ (by omega) (by omega),a0p,hx]
    rw [e1];refine (a1y (c:=cI .i64) (a:=b1K c [a,b,d,e] i) rfl (by rw [hpl];omega)).trans ?_;rw [List.range_succ,List.map_append];rfl
   have ha:=hm a (by simp);have hb:=hm b (by simp);have hd:=hm d (by simp);have he:=hm e (by simp);unfold b7Q;refine bt (v:=true) (cnT (by simp;omega) (by rw [a0x];exact congrArg some (decide_eq_true (by omega)))) (cnT rfl (bt (v:=a0d ((List.range (i+1)).map (b1K c [a,b,d,e]))) ?_ ?_))
   ·match i,hi with
    | 0,hi=>exact cnT rfl (bt (a2W r1) (bt hnk (bt (hap a ha.1 ha.2 rfl) rfl)))
    | 1,hi=>exact cnF rfl (cnT rfl (bt (a2W r1) (bt hnk (bt (hap b hb.1 hb.2 rfl) rfl))))
    | 2,hi=>exact cnF rfl (cnF rfl (cnT rfl (bt (a2W r1) (bt hnk (bt (hap d hd.1 hd.2 rfl) rfl)))))
    | 3,hi=>exact cnF rfl (cnF rfl (cnF rfl (cnT rfl (bt (a2W r1) (bt hnk (bt (hap e he.1 he.2 rfl) rfl))))))
    | i+4,hi=>omega
   simp only [a0g,a0i,a0G (i:=i) (n:=200) (by omega) (by decide)])
  (fun p _=>by unfold b7Q;exact bt (v:=false) (cnF (by simp) rfl) (cnF rfl rfl)) [] rfl
 subst hp;exact e
end
theorem c4P (s:Spec) (hs:a0C s.2.2.1/\a0C s.2.2.2) (c:Code) (hc:a1q c) (u:Tab) (hut:a0C u) (a b d e:Int) (hm : ∀ n∈[a,b,d,e],0<=n/\n<256) (x:Int) (hx:0<=x/\x<256) :
  Z3 Ar.std s.1 s.2.1 (a0r s.2.2.1) (a0r s.2.2.2) (a0o c) (a0r u) a b d e x=some true:=by
 unfold Z3;refine bt (c4I s hs c hc u hut) ?_;cases hcase:a8B s c u with
 | false=>exact cnF rfl (bt b6g rfl)
 | true =>
   simp only [a8B,zp4,decide_eq_true_eq] at hcase;obtain ⟨_,hv,hk,ho,hu⟩:=hcase;have hspec:a6W s c u=0:=by unfold a6W;rw [hv,hk,hu,decide_eq_true ho];rfl
   have hcode:a3o c u=0:=by unfold a3o;rw [hv,hu];rfl
   obtain ⟨n,hn,en⟩ : ∃ n:Nat,n<=12/\Ar.std.rem (Ar.std.wrp .i64 x) 13=(n:Int):=by
    have x1:=Int.emod_nonneg x (by decide:(13:Int)≠0);have x2:=Int.emod_lt_of_pos x (by decide:(0:Int)<13);refine ⟨(x%13).toNat,by omega,?_⟩;simp only [a8t,a0g];rw [a8P _ (by omega) (by omega),Int.tmod_eq_emod_of_nonneg hx.1];omega
   rw [en];have n13:nk (Ar.std.zeq 13 0)=some ():=rfl;have hbrk : ∀ j:Nat,j<=12->b6N s c u (j:Int)=(match a1i s (a1j c u [] j mc0 []) with | none=>([],5) | some e=>(e.2,0)):=fun j hj=>by
    unfold b6N;rw [hspec,(a0n _ _ _).2 (⟨by omega,by omega⟩:(0:Int)<=(j:Int)/\(j:Int)<=12),Int.toNat_natCast];rfl
   obtain ⟨ss,e12,hsl,hmem⟩:=c2d hc hut hv hu hn;have hruns : ∀ e∈a1j c u [] n mc0 [],TInv c u e.1/\e.1.st<=12:=fun e he=>by
    obtain ⟨r,q1,q2,q3⟩:=a5i n mc0 [] e he;have:=c1U hv hu r (by omega);rw [q3] at this;exact this.2
   have eit:=b9i hs hv hu hk ho ss hsl (fun x hx=>by
    obtain ⟨e,he,rfl⟩:=(hmem x).1 hx;exact ⟨e.1,(hruns e he).1,(hruns e he).2,rfl⟩)

   have hmks:=b8Y hc hv hm;have hmk':b0d c (b6J c [a,b,d,e]) := .inr (a8F c _);have h4:c.length<=4:=by
    have:=hv;simp only [a1e,zp4,a0n] at this;omega
   have hlm:(b6J c [a,b,d,e]).length<Lg:=by rw [a8F];exact Nat.lt_of_le_of_lt h4 (by decide)
   have e16:=c1N hs hk hc hut hv hu ho hlm hmks;have e17:=c1R hc hut;unfold c4K at e17;rw [hcode] at e17;have e12':=b7F hs hc hut (12:Int);have hb12:=hbrk 12 (Nat.le_refl _);unfold c2Z at e12';have hms:=b0P hs hv hu hk ho hmk'
   have htail:(iter (b7Q Ar.std (a0o c) a b d e) ([],0)).bind (fun v208 =>
       (Z16 Ar.std s.1 s.2.1 (a0r s.2.2.1) (a0r s.2.2.2) (a0o c) (a0r u) v208).bind fun (r211,r212) =>
       (Z17 Ar.std (a0o c) (a0r u)).bind fun (r214,r215) =>
       (Z10 Ar.std s.1 s.2.1 (a0r s.2.2.1) (a0r s.2.2.2) (a0o c) (a0r u) 12).bind fun (r217,r218) =>
       ((
        bif (Ar.std.zeq r212 0) then
         bif (Ar.std.zeq r215 0) then
          bif (Ar.std.zeq r218 0) then
           bif r211 then
            bif r214 then
             bif r217 then
              (Z9 Ar.std).bind fun r226 =>
              some r226
             else
              some false
            else
             (Z9 Ar.std).bind fun r228 =>
             some r228
           else
            (Z9 Ar.std).bind fun r230 =>
            some r230
          else
           some false
         else
          some false
        else
         some false:Option (Bool))).bind fun v231 =>
       some v231)=some true:=by
    refine bt (b9j hc hv hm) (bt e16 (bt e17 ?_));obtain ⟨w,ew,hw⟩ : ∃ w,Z10 Ar.std s.1 s.2.1 (a0r s.2.2.1) (a0r s.2.2.2) (a0o c) (a0r u) 12=some (w,0)/\(a1i s (a1j c u [] 12 mc0 [])=none->w=true):=by
     have hb12':b6N s c u (12:Int)=_:=hb12;rw [hb12'] at e12';cases hg:a1i s (a1j c u [] 12 mc0 []) with
     | none=>rw [hg] at e12';exact ⟨true,e12',fun _=>rfl⟩
     | some g=>rw [hg] at e12';exact ⟨false,e12',fun h=>by cases h⟩
    refine bt ew (bt (v:=true) (cnT rfl (cnT rfl (cnT rfl ?_))) rfl);generalize (a1J c u (b6J c [a,b,d,e]) 12 mc0).all (b2B s u)=p at hms;generalize (a1J c u [] 12 mc0).all (a0S u)=q at hms;cases p with
    | false=>exact bt b6g rfl
    | true =>
      cases q with
      | false=>exact bt b6g rfl
      | true=>rw [hw (hms rfl rfl)];exact bt b6g rfl
   have e10:=b7F hs hc hut (n:Int);have e11:=b7E hs hc hut (n:Int);unfold c2Z at e10;rw [hbrk n hn] at e10 e11;refine cnT rfl (bt n13 ?_);cases hf:a1i s (a1j c u [] n mc0 []) with
   | none =>
     rw [hf] at e10 e11;have hall:ss.all (a7c s)=true:=List.all_eq_true.2 fun x hx=>by
      obtain ⟨e,he,rfl⟩:=(hmem x).1 hx;exact b0N hf e he
     rw [hall] at eit;refine bt e10 (bt e11 (bt e12 (bt (v:=false) rfl (cnF rfl (bt eit ?_)))));simp only [Sum.elim_inl];refine cnT rfl ?_;unfold jn;exact htail
   | some f =>
     rw [hf] at e10 e11;have hfm:f∈a1j c u [] n mc0 []:=List.mem_of_find?_eq_some hf;have hfl:a7c s f.1.h=false:=by
      have:=List.find?_some hf;simpa using this
     obtain ⟨r,q1,q2,q3⟩:=a5i n mc0 [] f hfm;rw [List.nil_append] at q1;have hall:ss.all (a7c s)=false:=by
      rw [<-Bool.not_eq_true,List.all_eq_true];intro h;have:=h f.1.h ((hmem _).2 ⟨f,hfm,rfl⟩);rw [hfl] at this;cases this
     rw [hall] at eit;have e11':Z11 Ar.std s.1 s.2.1 (a0r s.2.2.1) (a0r s.2.2.2) (a0o c) (a0r u) (n:Int)=some (a0d r,0):=by rw [e11,<-q1]
     have e15:=b7u hc hut (Nat.lt_of_le_of_lt (Nat.le_trans q2 hn) (by decide):r.length<Lg);rw [b6A hv hu r (by omega) (by rw [q3]),q3] at e15;have e14:=b5b hs hv hu hk ho (hruns f hfm).1 (hruns f hfm).2;rw [hfl] at e14;refine bt e10 (bt e11' (bt e12 (bt (v:=false) rfl (cnF rfl (bt eit ?_)))));simp only [Sum.elim_inl];refine cnT rfl ?_;unfold jn;refine cnF (b:=false) rfl ?_;exact bt e15 (bt e14 (bt (v:=false) rfl (cnF rfl htail)))
end Go.Am
