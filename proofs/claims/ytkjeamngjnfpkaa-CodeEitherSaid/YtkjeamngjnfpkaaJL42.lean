/- Own text: JL42. -/
import Derived.Test.YtkjeamngjnfpkaaJL18
import Derived.Test.YtkjeamngjnfpkaaJH12
set_option maxRecDepth 100000
set_option maxHeartbeats 2000000
set_option linter.unusedVariables false
set_option linter.unusedSimpArgs false
set_option linter.unusedSectionVars false
namespace Go.Am
open Go
section
variable {s:Spec} (hs:TabOk s.2.2.1/\TabOk s.2.2.2) (hk:specOk s=true)
include hs hk
end
end Go.Am

namespace Go.Am
open Go
theorem K70a_rfl:K70a=K70:=rfl
theorem K56_eq {u:Tab} (x1:List D) (m:Mc) (h2:u.length<=2):K56 Ar.std x1 (eTab u) m.a.cl m.a.ln m.a.r0 m.a.r1 m.a.r2 m.a.r3 m.a.at_ m.b.cl m.b.ln m.b.r0 m.b.r1 m.b.r2 m.b.r3 m.b.at_ m.c0 m.c1 m.c2 m.st (eCalls m.h) (eInts m.ms)=some (eInts (leftM u m)):=by
 unfold K56
 refine bt (left_it (n:=u.length) h2 (fun t=>hasM u t m) id (fun i o hi ho => ?_) (fun o => ?_)) rfl
 ·unfold K56L0
  rw [K70a_rfl]
  refine cnT (by simp;omega) (bt (K70_m x1 h2 (i:Int)) (bt (v:=eInts (bif hasM u (i:Int) m then o++[(i:Int)] else o)) ?_ ?_))
  ·cases hasM u (i:Int) m with
   | false=>rfl
   | true=>exact cnT rfl (bt (ap_enc1 (c:=cI .i64) rfl (by omega)) rfl)
  ·simp only [std_wrp,std_zadd,wrap1 hi (by omega)]
 ·unfold K56L0
  exact cnF (by simp) rfl
theorem leftM_len {u:Tab} (h2:u.length<=2) (m:Mc):(leftM u m).length<=2:=by
 unfold leftM
 rw [List.length_map]
 refine Nat.le_trans (List.length_filter_le _ _) ?_
 rw [List.length_range'];exact h2
theorem K146_eq (l:List D) (h:l.length<4294967296):K146 Ar.std l=some l:=by
 have e:ap Ar.std [] l=some l:=by simpa using ap_std (l:=[]) (m:=l) (by simpa using (by omega:(l.length:Int)<4294967296))
 unfold K146
 cases l with
 | nil=>exact cnF rfl (by rw [e];exact both_self _)
 | cons x r=>exact cnT (by simp <;> omega) (by rw [e];rfl)
theorem scalInts (h:List Int):scalars (eInts h)=true:=by
 simp only [scalars,eInts,enc,List.all_map,List.all_eq_true]
 intro x _;rfl
section
variable {s:Spec} (hs:TabOk s.2.2.1/\TabOk s.2.2.2) (hk:specOk s=true) {c:Code} {u:Tab} {mks:List Int} (hmk:MkOk c mks) (hv:vCode c=true) (hu:vUse c u=true) (ho:s.2.1=(c.length:Int))
include hmk hv hu in
theorem tinv_next {m:Mc} (hi:MInv c u m) (hT:TInv c u m) {t:Int} (ht:hasM u t m=true):TInv c u (stepM c u mks t.toNat m):=by
 obtain ⟨h2,⟨g⟩⟩:=go1 hv hu hi (t:=t.toNat) (by
  have h0:0<=t:=by simp only [hasM,zp4,btw_true] at ht;omega
  rw [Int.toNat_of_nonneg h0];exact ht)
 have T:=(tinv_step hi hT h2 g).1
 exact ⟨T.one,T.two,T.ops,T.le,T.st0⟩
include hs hk hmk hv hu ho
end
end Go.Am

namespace Go.Am
open Go
theorem has_left {u:Tab} {m:Mc} {t:Int} (h:hasM u t m=true):t∈leftM u m:=by
 have hb:=h
 simp only [hasM,zp4,btw_true] at hb
 unfold leftM
 refine List.mem_map.2 ⟨t.toNat,List.mem_filter.2 ⟨List.mem_range'.2 ⟨t.toNat,by omega,by omega⟩,?_⟩,by omega⟩
 rw [Int.toNat_of_nonneg (by omega)];exact h
structure TMk (m:Mc):Prop where
 tm : ∀ (i:Nat) (x:Int) (y:Call),m.ms[i]?=some x->m.h[i]?=some y->x≠0->y.fr<=2*x-1/\(y.to=0\/2*x<=y.to)
theorem tmk0:TMk mc0:=⟨fun i x y h=>by simp [mc0] at h⟩
section
variable {c:Code} {u:Tab} {t:Nat} {m:Mc}
theorem tmk_step (mks:List Int) (hi:MInv c u m) (hT:TInv c u m) (hM:MkI m) (hK:TMk m) (ht:t<2) (g:Go1 c u t m):TMk (stepM c u mks t m):=by
 have B:=binv (u:=u) hi ht
 have T:=tb hi hT ht g
 have hst:=hT.st0
 obtain ⟨x0,hx0,hx1,hx2,hx3⟩:=B.here
 obtain ⟨d0,d1,d2,d3⟩:=B.reg
 obtain ⟨e0,e1,e2⟩:=hi.cel

 have hA : ∀ (i:Nat) (x:Int) (y:Call),(stB u t m).2.2.2.2.2.2[i]?=some x->(stB u t m).2.2.2.2.2.1[i]?=some y->x≠0->(y.fr<=2*x-1/\(y.to=0\/2*x<=y.to))/\x<=m.st:=by
  intro i x y h1 h2 hne
  cases hin:(m.hd t).inn with
  | true =>
    have e:stB u t m=((m.hd t).r0,(m.hd t).r1,(m.hd t).r2,(m.hd t).r3,(m.hd t).at_,m.h,m.ms):=by unfold stB beg;rw [hin];rfl
    rw [e] at h1 h2
    exact ⟨hK.tm i x y h1 h2 hne,(hM.rng i x h1).2⟩
  | false =>
    have e:stB u t m=(0,1,0,0,(m.h.length:Int),m.h++[((t:Int),0,opOf u t (m.hd t).cl,0,2*m.st+1,0)],m.ms++[0]):=by unfold stB beg;rw [hin];rfl
    rw [e] at h1 h2
    replace h1:(m.ms++[0])[i]?=some x:=h1
    replace h2:(m.h++[((t:Int),0,opOf u t (m.hd t).cl,0,2*m.st+1,0)])[i]?=some y:=h2
    have hms:=hi.ms
    rcases Nat.lt_or_ge i m.ms.length with h | h
    ·rw [zp7 h] at h1
     rw [zp7 (by omega)] at h2
     exact ⟨hK.tm i x y h1 h2 hne,(hM.rng i x h1).2⟩
    ·rw [zp8 h] at h1
     match hq:i-m.ms.length,h1 with
     | 0,h1=>simp at h1;exact absurd h1.symm hne
     | k+1,h1=>simp at h1

 have hs:(stepM c u mks t m).ms=mkd mks (opOf u t (m.hd t).cl) (m.hd t).ln (stB u t m).2.2.2.2.1 (m.st+1) (stB u t m).2.2.2.2.2.2:=rfl
 have hB : ∀ (i:Nat) (x:Int),(stepM c u mks t m).ms[i]?=some x->(stB u t m).2.2.2.2.2.2[i]?=some x\/(i=(stB u t m).2.2.2.2.1.toNat/\x=m.st+1):=by
  intro i x hx
  rw [hs] at hx
  unfold mkd at hx
  cases hmk:hasMk mks (opOf u t (m.hd t).cl) (m.hd t).ln with
  | false=>rw [hmk] at hx;exact .inl hx
  | true =>
    rw [hmk,cond_true] at hx
    by_cases h:(stB u t m).2.2.2.2.1.toNat=i
    ·subst h
     have hl:=(zp2.1 hx).1
     rw [List.length_set] at hl
     rw [List.getElem?_set_self hl] at hx
     exact .inr ⟨rfl,(Option.some.inj hx).symm⟩
    ·rw [List.getElem?_set_ne h] at hx
     exact .inl hx

 have hC : ∀ (i:Nat) (y:Call),(stepM c u mks t m).h[i]?=some y -> ∃ z,(stB u t m).2.2.2.2.2.1[i]?=some z/\y.fr=z.fr/\(y.to=z.to\/(i=(stB u t m).2.2.2.2.1.toNat/\y.to=2*(m.st+1))):=by
  intro i y hy
  by_cases h7:(stL c u t m).1=7
  ·have e:stX c u t m=_:=xLn_7 (st:=m.st+1) (cl:=(m.hd t).cl) (ln:=(m.hd t).ln) (r0:=(stB u t m).1) (r1:=(stB u t m).2.1) (r2:=(stB u t m).2.2.1) (r3:=(stB u t m).2.2.2.1) (c0:=m.c0) (c1:=m.c1) (c2:=m.c2) h7 hx0
   have eh:(stepM c u mks t m).h=(stB u t m).2.2.2.2.2.1.set (stB u t m).2.2.2.2.1.toNat (x0.1,x0.2.1,x0.2.2.1,rg4 (stB u t m).1 (stB u t m).2.1 (stB u t m).2.2.1 (stB u t m).2.2.2.1 (stL c u t m).2.1,x0.2.2.2.2.1,2*(m.st+1)):=by
    show (stX c u t m).2.2.2.2.2.2.2.2.2=_;rw [e]
   rw [eh] at hy
   by_cases h:(stB u t m).2.2.2.2.1.toNat=i
   ·subst h
    have hl:=(zp2.1 hx0).1
    rw [List.getElem?_set_self hl] at hy
    have:=(Option.some.inj hy).symm
    subst this
    exact ⟨x0,hx0,rfl,.inr ⟨rfl,rfl⟩⟩
   ·rw [List.getElem?_set_ne h] at hy
    exact ⟨y,hy,rfl,.inl rfl⟩
  ·have e:=(xLn_ne7 (l:=stL c u t m) (st:=m.st+1) (cl:=(m.hd t).cl) (ln:=(m.hd t).ln) (at_:=(stB u t m).2.2.2.2.1) (h:=(stB u t m).2.2.2.2.2.1) (okCall_line g.call g.hl) h7 d0 d1 d2 d3 e0 e1 e2).2.2.2.2
   have eh:(stepM c u mks t m).h=(stB u t m).2.2.2.2.2.1:=e
   rw [eh] at hy
   exact ⟨y,hy,rfl,.inl rfl⟩
 refine ⟨fun i x y hx hy hne => ?_⟩
 obtain ⟨z,hz,ez,hto⟩:=hC i y hy
 rw [ez]
 rcases hB i x hx with h | ⟨hI,hxe⟩
 ·obtain ⟨⟨a,b⟩,hle⟩:=hA i x z h hz hne
  refine ⟨a,?_⟩
  rcases hto with h | ⟨_,h⟩
  ·rw [h];exact b
  ·right;rw [h];omega
 ·subst hI
  rw [hx0] at hz
  have:=Option.some.inj hz
  subst this
  have h1:=(T.one x0 (List.mem_of_getElem? hx0)).1
  obtain ⟨_,_,_,_,f,_⟩:=h1
  refine ⟨by omega,?_⟩
  rcases hto with h | ⟨_,h⟩
  ·left;rw [h];exact hx3
  ·right;rw [h];omega
end
theorem runS_all {c:Code} {u:Tab} {mks:List Int} (hmk:MkOk c mks) (hv:vCode c=true) (hu:vUse c u=true) : ∀ (sch:List Int) (m:Mc),MInv c u m->TInv c u m->MkI m->TMk m ->
  MInv c u (runS c u mks sch m).1/\TInv c u (runS c u mks sch m).1/\MkI (runS c u mks sch m).1/\TMk (runS c u mks sch m).1
 | [],m,a,b,d,e=>⟨a,b,d,e⟩
 | t::r,m,a,b,d,e=>by
   unfold runS
   cases ht:hasM u t m with
   | false=>exact ⟨a,b,d,e⟩
   | true =>
     have h0:0<=t:=by simp only [hasM,zp4,btw_true] at ht;omega
     obtain ⟨h2,⟨g⟩⟩:=go1 hv hu a (t:=t.toNat) (by rw [Int.toNat_of_nonneg h0];exact ht)
     exact runS_all hmk hv hu r _ (minv_next mks hmk hv hu a ht) (tinv_next hmk hv hu a b ht) (mki_step mks d b.st0) (tmk_step mks a b d e h2 g)
section
variable {m:Mc} (hI:MkI m) (hK:TMk m) (hl:m.ms.length=m.h.length) (hz:zeroM m=false)
include hI hK hl hz
end
section
variable {s:Spec} (hk:specOk s=true) {c:Code} {u:Tab} (hv:vCode c=true) (hu:vUse c u=true) (ho:s.2.1=(c.length:Int)) {m:Mc} (hT:TInv c u m) (hst:m.st<=12)
include hk hv hu ho hT hst
theorem run_err:errH [s] m.h=0:=by
 have h1:areS [s]=true:=by
  unfold areS
  rw [List.all_cons,hk];rfl
 have h2:forH [s] m.h=true:=by
  unfold forH
  rw [run_valid hv hu hT hst,Bool.true_and,List.all_eq_true]
  intro x hx
  obtain ⟨_,b,d,_⟩:=hT.one x hx
  unfold fitC
  rw [b]
  show decide (x.op<s.2.1)=true
  rw [ho]
  exact decide_eq_true d.2
 unfold errH
 rw [h1,h2];rfl
end
end Go.Am

namespace Go.Am
open Go
section
variable {c:Code} (hc:CodeOk c) (hv:vCode c=true) {ms:List Int} (hm : ∀ n∈ms,0<=n/\n<256)
include hc hv hm
end
end Go.Am

namespace Go.Am
open Go
abbrev Ent:=Mc×List H8×List Int
structure EntOk (c:Code) (u:Tab) (e:Ent):Prop where
 r:RHs u e.1 e.2.1
 i:MInv c u e.1
 t:TInv c u e.1
 k:MkI e.1
 st:e.1.st<=12
section
variable {c:Code} {u:Tab} {mks:List Int} (hmk:MkOk c mks) (hv:vCode c=true) (hu:vUse c u=true)
include hmk hv hu
end
end Go.Am

namespace Go.Am
open Go
abbrev MS:=Mc×List Int
def endsS (c:Code) (u:Tab) (mks:List Int):Nat->Mc->List Int->List MS
 | 0,m,sch=>[(m,sch)]
 | k+1,m,sch=>bif overM u m then [(m,sch)] else (leftM u m).flatMap fun t=>endsS c u mks k (stepM c u mks t.toNat m) (sch++[t])
section
variable {c:Code} {u:Tab} {mks:List Int} (hmk:MkOk c mks) (hv:vCode c=true) (hu:vUse c u=true)
include hmk hv hu
end
end Go.Am

namespace Go.Am
open Go
def cellsC (x:Call):List D:=[.int .i64 x.th,.int .i64 x.ob,.int .i64 x.op,.int .i64 x.sa,.int .i64 x.fr,.int .i64 x.to]
def callZ:Call:=(0,0,0,0,0,0)
def padR:Nat->List Call->List D
 | 0,_=>[]
 | n+1,[]=>cellsC callZ++padR n []
 | n+1,x::r=>cellsC x++padR n r
theorem flat_calls (x:Call) (r:List Call):D.flat (eCalls (x::r))=cellsC x++D.flat (eCalls r):=rfl
theorem flat_len (h:List Call):(D.flat (eCalls h)).length=6*h.length:=by
 induction h with
 | nil=>rfl
 | cons x r ih=>rw [flat_calls,List.length_append,ih,List.length_cons];show 6+_=_;omega
theorem padR_nil (n:Nat):padR n []=List.replicate (6*n) (.int .i64 0):=by
 induction n with
 | zero=>rfl
 | succ n ih =>
   show cellsC callZ++padR n []=_
   rw [ih,show 6*(n+1)=6+6*n by omega,<-List.replicate_append_replicate];rfl
theorem padR_eq : ∀ (n:Nat) (h:List Call),h.length<=n->D.flat (eCalls h)++(List.replicate (6*n) (.int .i64 0)).drop (6*h.length)=padR n h
 | n,[],_=>by rw [padR_nil];rfl
 | 0,x::r,h=>by simp at h
 | n+1,x::r,h=>by
   have ih:=padR_eq n r (by simpa using h)
   rw [flat_calls,List.append_assoc]
   show _=cellsC x++padR n r
   rw [<-ih,List.drop_replicate,List.drop_replicate,List.length_cons]
   congr 2
   congr 1
   omega
theorem padR_len : ∀ (n:Nat) (h:List Call),(padR n h).length=6*n
 | 0,_=>rfl
 | n+1,[]=>by show (cellsC callZ++padR n []).length=_;rw [List.length_append,padR_len n []];show 6+_=_;omega
 | n+1,x::r=>by show (cellsC x++padR n r).length=_;rw [List.length_append,padR_len n r];show 6+_=_;omega
theorem padR_conf : ∀ (n:Nat) (h:List Call),confD (List.replicate (6*n) (.int .i64)) (padR n h)=true
 | 0,_=>rfl
 | n+1,[]=>by
   rw [show 6*(n+1)=6*n+1+1+1+1+1+1 by omega]
   simp only [List.replicate_succ]
   show confD _ (.int .i64 _ :: .int .i64 _ :: .int .i64 _ :: .int .i64 _ :: .int .i64 _ :: .int .i64 _::padR n [])=true
   simp only [confD,CK.fits,decide_true,Bool.true_and,padR_conf n []]
 | n+1,x::r=>by
   rw [show 6*(n+1)=6*n+1+1+1+1+1+1 by omega]
   simp only [List.replicate_succ]
   show confD _ (.int .i64 _ :: .int .i64 _ :: .int .i64 _ :: .int .i64 _ :: .int .i64 _ :: .int .i64 _::padR n r)=true
   simp only [confD,CK.fits,decide_true,Bool.true_and,padR_conf n r]
theorem padR_ones : ∀ (n:Nat) (h:List Call),(padR n h).all D.isOne=true
 | 0,_=>rfl
 | n+1,[]=>by show (cellsC callZ++padR n []).all D.isOne=true;rw [List.all_append,padR_ones n []];rfl
 | n+1,x::r=>by show (cellsC x++padR n r).all D.isOne=true;rw [List.all_append,padR_ones n r];rfl
theorem cellsC_inj {x y:Call} {a b:List D} (h:cellsC x++a=cellsC y++b):x=y/\a=b:=by
 obtain ⟨x1,x2,x3,x4,x5,x6⟩:=x
 obtain ⟨y1,y2,y3,y4,y5,y6⟩:=y
 simp only [cellsC,List.cons_append,List.nil_append,List.cons.injEq,D.int.injEq,true_and] at h
 obtain ⟨h1,h2,h3,h4,h5,h6,h7⟩:=h
 refine ⟨?_,h7⟩
 simp only [Prod.mk.injEq]
 exact ⟨h1,h2,h3,h4,h5,h6⟩
theorem padR_inj : ∀ (n:Nat) (h h':List Call),h.length<=n->h'.length<=n->(∀ x∈h,x.fr≠0)->(∀ x∈h',x.fr≠0)->padR n h=padR n h'->h=h'
 | _,[],[],_,_,_,_,_=>rfl
 | 0,x::r,_,h,_,_,_,_=>by simp at h
 | 0,[],x::r,_,h,_,_,_=>by simp at h
 | n+1,[],y::r,_,_,_,h2,e=>by
   have:=(cellsC_inj (x:=callZ) (y:=y) (a:=padR n []) (b:=padR n r) e).1
   subst this
   exact absurd rfl (h2 callZ (by simp))
 | n+1,x::r,[],_,_,h1,_,e=>by
   have:=(cellsC_inj (x:=x) (y:=callZ) (a:=padR n r) (b:=padR n []) e).1
   subst this
   exact absurd rfl (h1 callZ (by simp))
 | n+1,x::r,y::q,l1,l2,h1,h2,e=>by
   obtain ⟨e1,e2⟩:=cellsC_inj (x:=x) (y:=y) (a:=padR n r) (b:=padR n q) e
   subst e1
   rw [padR_inj n r q (by simpa using l1) (by simpa using l2) (fun z hz=>h1 z (by simp [hz])) (fun z hz=>h2 z (by simp [hz])) e2]
def KD (h:List Call):D := .agg (padR 6 h)
def H6 (h:List Call):Prop:=h.length<=6 /\ ∀ x∈h,x.fr≠0
def GoodB (s:Spec) (mp:List (D×D)):Prop := ∀ (h:List Call) (v:D),H6 h->Am.mget mp (KD h)=some v->v = .bool true/\linB s h=true
theorem GoodB.nil (s:Spec):GoodB s []:=fun h v _ hv=>by simp [Am.mget] at hv
theorem GoodB.put {s:Spec} {mp:List (D×D)} (hg:GoodB s mp) {h:List Call} (hh:H6 h) (hl:linB s h=true):GoodB s (Am.mput mp (KD h) (.bool true)):=by
 intro h' v hh' hv
 rw [mget_mput] at hv
 split at hv
 ·rename_i e
  have e':padR 6 h=padR 6 h':=by
   unfold KD at e
   exact D.agg.inj e
  have:=padR_inj 6 h h' hh.1 hh'.1 hh.2 hh'.2 e'
  subst this
  exact ⟨(Option.some.inj hv).symm,hl⟩
 ·exact hg h' v hh' hv
theorem ga_key {h:List Call} (hl:h.length<=6):ga Ar.std (Ar.std.spl (Ar.std.rep (Int.ofNat 36) (.int .i64 0)) (Ar.std.zmul 0 (Int.ofNat 6)) (Ar.std.flat (eCalls h))) (Ar.std.zadd 0 (Int.ofNat 0)) (Int.ofNat 36)=some (padR 6 h):=by
 have e:Ar.std.spl (Ar.std.rep (Int.ofNat 36) (.int .i64 0)) (Ar.std.zmul 0 (Int.ofNat 6)) (Ar.std.flat (eCalls h))=padR 6 h:=by
  rw [<-padR_eq 6 h hl]
  show (List.replicate 36 (D.int .i64 0)).take 0++D.flat (eCalls h)++(List.replicate 36 (D.int .i64 0)).drop (0+(D.flat (eCalls h)).length)=_
  rw [List.take_zero,List.nil_append,Nat.zero_add,flat_len]
 rw [e]
 have hlen:=padR_len 6 h
 have e1:Ar.std.sub (padR 6 h) (Ar.std.zadd 0 (Int.ofNat 0)) (Ar.std.zadd (Ar.std.zadd 0 (Int.ofNat 0)) (Int.ofNat 36))=padR 6 h:=by
  show ((padR 6 h).drop 0).take 36=_
  rw [List.drop_zero,List.take_of_length_le (by omega)]
 have e2:Ar.std.zle (Ar.std.zadd (Ar.std.zadd 0 (Int.ofNat 0)) (Int.ofNat 36)) (Ar.std.len (padR 6 h))=true:=by
  show decide ((36:Int)<=((padR 6 h).length:Int))=true
  rw [hlen];rfl
 unfold ga
 rw [e2,e1]
 show (bif (padR 6 h).all D.isOne then _ else _)=_
 rw [padR_ones];rfl
theorem conf_key (h:List Call):Ar.std.conf [.int .i64,.int .i64,.int .i64,.int .i64,.int .i64,.int .i64,.int .i64,.int .i64,.int .i64,.int .i64,.int .i64,.int .i64,.int .i64,.int .i64,.int .i64,.int .i64,.int .i64,.int .i64,.int .i64,.int .i64,.int .i64,.int .i64,.int .i64,.int .i64,.int .i64,.int .i64,.int .i64,.int .i64,.int .i64,.int .i64,.int .i64,.int .i64,.int .i64,.int .i64,.int .i64,.int .i64] (padR 6 h)=true :=
 padR_conf 6 h
section
variable {s:Spec} (hs:TabOk s.2.2.1/\TabOk s.2.2.2)
include hs
theorem K86_eq {h:List Call} (hh:H6 h) {mp:List (D×D)} (hg:GoodB s mp) (sch out:List D) (x1 x2:List D) (x3 x4 x5 x6 x7 x8 x9 x10 x11 x12 x13 x14 x15 x16 x17 x18 x19 x20:Int) (x22:List D) :
  ∃ mp',GoodB s mp'/\K86 Ar.std x1 x2 x3 x4 x5 x6 x7 x8 x9 x10 x11 x12 x13 x14 x15 x16 x17 x18 x19 x20 (eCalls h) x22 sch s.1 s.2.1 (eTab s.2.2.1) (eTab s.2.2.2) mp out
    = some (bif linB s h then (true,mp',out) else (false,mp',sch)):=by
 have hll:h.length<Lg:=Nat.lt_of_le_of_lt hh.1 (by decide)
 have c1:ck (Ar.std.zle (Ar.std.len (eCalls h)) (Int.ofNat 6))=some ():=ck_of (by
  rw [len_enc]
  show decide ((h.length:Int)<=6)=true
  have:=hh.1
  exact decide_eq_true (by omega))
 have c2:ck (Ar.std.zle (Ar.std.zmul (Ar.std.zadd 0 (Int.ofNat 6)) (Int.ofNat 6)) (Ar.std.len (Ar.std.rep (Int.ofNat 36) (.int .i64 0))))=some ():=ck_of (by
  show decide ((36:Int)<=(((List.replicate 36 (D.int .i64 0)).length:Nat):Int))=true
  rw [List.length_replicate];rfl)
 have hga:=ga_key hh.1
 have hck:=ck_of (conf_key h)
 have hmg:Ar.std.mget mp (.agg (padR 6 h))=Am.mget mp (KD h):=rfl
 cases hm:Am.mget mp (KD h) with
 | some v =>
   obtain ⟨rfl,hlin⟩:=hg h v hh hm
   refine ⟨mp,hg,?_⟩
   rw [hlin,cond_true]
   unfold K86
   refine bt c1 (bt c2 (bt (v:=false) (bt hga (bt hck (bt (v:=some true) ?_ rfl))) ?_))
   ·unfold lk
    rw [hmg,hm];rfl
   ·unfold jn
    exact cnF rfl rfl
 | none =>
   have hlk:lk Ar.std cB mp (.agg (padR 6 h))=some none:=by
    unfold lk
    rw [hmg,hm];rfl
   cases hlin:linB s h with
   | true =>
     refine ⟨Am.mput mp (KD h) (.bool true),hg.put hh hlin,?_⟩
     unfold K86
     refine bt c1 (bt c2 (bt (v:=true) (bt hga (bt hck (bt hlk rfl))) ?_))
     unfold jn
     refine cnT rfl (bt (K87_eq hs h hll) ?_)
     rw [hlin]
     exact cnT rfl (bt hga (bt hck rfl))
   | false =>
     refine ⟨mp,hg,?_⟩
     unfold K86
     refine bt c1 (bt c2 (bt (v:=true) (bt hga (bt hck (bt hlk rfl))) ?_))
     unfold jn
     refine cnT rfl (bt (K87_eq hs h hll) ?_)
     rw [hlin]
     exact cnF rfl rfl
end
end Go.Am

namespace Go.Am
open Go
section
variable {m:Mc} (hI:MkI m) (hl:m.ms.length=m.h.length) (hs:m.st<=100) (hs0:0<=m.st) (hh:m.h.length<=100)
include hI hl hs hs0 hh
end
end Go.Am

namespace Go.Am
open Go
theorem specE_all {s:Spec} {c:Code} {u:Tab} (h:specE s c u=0):vCode c=true/\specOk s=true/\s.2.1=(c.length:Int)/\vUse c u=true:=by
 unfold specE at h
 cases hv:vCode c with
 | false=>rw [hv] at h;simp at h
 | true =>
   rw [hv] at h
   cases hs:specOk s&&decide (s.2.1=(c.length:Int)) with
   | false=>rw [hs] at h;simp at h
   | true =>
     rw [hs] at h
     rw [zp4,decide_eq_true_eq] at hs
     cases hu:vUse c u with
     | false=>rw [hu] at h;simp at h
     | true=>exact ⟨rfl,hs.1,hs.2,rfl⟩
section
variable {s:Spec} (hs:TabOk s.2.2.1/\TabOk s.2.2.2) {c:Code} (hc:CodeOk c) {u:Tab} (hut:TabOk u) {mks:List Int} (hlm:mks.length<Lg)
include hs hc hut hlm
end
section
variable {c:Code} {u:Tab} {mks:List Int} (hmk:MkOk c mks) (hv:vCode c=true) (hu:vUse c u=true)
include hmk hv hu
end
section
variable {c:Code} (hc:CodeOk c) {u:Tab} (hut:TabOk u)
include hc hut
end
end Go.Am

namespace Go.Am
open Go
abbrev CellB:=List D->List D->Int->Int->Int->Int->Int->Int->Int->Int->Int->Int->Int->Int->Int->Int->Int->Int->Int->Int->List D->List D->Int->List D->List D->Int->Int->List D->List D->List (D×D)->List D->Option (Bool×List (D×D)×List D)
def firstB (s:Spec) (L:List MS):Option MS:=L.find? fun e => !linB s e.1.h
theorem firstB_app (s:Spec) (a b:List MS):firstB s (a++b)=(firstB s a).or (firstB s b):=List.find?_append
def resB (o:Option MS) (mp:List (D×D)) (out:List D):Bool×List (D×D)×List D :=
 match o with
 | none=>(true,mp,out)
 | some e=>(false,mp,eInts e.2)
def resO (o:Option MS) (mp:List (D×D)) (out:List D):Bool×List D×List (D×D) :=
 match o with
 | none=>(true,out,mp)
 | some e=>(false,eInts e.2,mp)
theorem run6 {c:Code} {u:Tab} (hv:vCode c=true) (hu:vUse c u=true) {m:Mc} (hT:TInv c u m):H6 m.h:=by
 refine ⟨?_,fun x hx=>by have:=(hT.one x hx).2.2.2.2.1.1;omega⟩
 rw [two_len m.h (fun x hx=>(hT.one x hx).1)]
 have a:=hT.ops 0 (by decide)
 have b:=hT.ops 1 (by decide)
 have a':(opsOf m.h 0).length<=3:=by
  have:opsOf m.h 0=_:=a
  rw [this,List.length_take];have:=word3 hv hu 0;omega
 have b':(opsOf m.h 1).length<=3:=by
  have:opsOf m.h 1=_:=b
  rw [this,List.length_take];have:=word3 hv hu 1;omega
 omega
abbrev cellT (c:Code) (u:Tab) (m:Mc):=(eCode c,eTab u,m.a.cl,m.a.ln,m.a.r0,m.a.r1,m.a.r2,m.a.r3,m.a.at_,m.b.cl,m.b.ln,m.b.r0,m.b.r1,m.b.r2,m.b.r3,m.b.at_,m.c0,m.c1,m.c2,m.st,eCalls m.h,eInts m.ms)
section
variable {s:Spec} (hs:TabOk s.2.2.1/\TabOk s.2.2.2) {c:Code} {u:Tab} {mks:List Int} (hmk:MkOk c mks) (hv:vCode c=true) (hu:vUse c u=true) {steps:Int} (hs0:steps<=12)
def SelfB (s:Spec) (c:Code) (u:Tab) (mks:List Int) (steps:Int) (k:Nat) (slf:CellB):Prop :=
 ∀ (m:Mc) (sch:List Int) (mp:List (D×D)) (out:List D),MInv c u m->TInv c u m->m.st+k=steps->(sch.length:Int)<=m.st->GoodB s mp ->
   ∃ mp',GoodB s mp'/\slf (eCode c) (eTab u) m.a.cl m.a.ln m.a.r0 m.a.r1 m.a.r2 m.a.r3 m.a.at_ m.b.cl m.b.ln m.b.r0 m.b.r1 m.b.r2 m.b.r3 m.b.at_ m.c0 m.c1 m.c2 m.st (eCalls m.h) (eInts m.ms) steps (eInts mks) (eInts sch) s.1 s.2.1 (eTab s.2.2.1) (eTab s.2.2.2) mp out=some (resB (firstB s (endsS c u mks k m sch)) mp' out)
include hs hmk hv hu hs0
theorem visB_ok (k:Nat) (slf:CellB) (hself : ∀ k',k=k'+1->SelfB s c u mks steps k' slf):SelfB s c u mks steps k (K85eB Ar.std slf):=by
 intro m sch mp out hi hT hst hsch hg
 have h2:=ulen mks hmk hv hu
 have hhs:=hi.st
 have hms:=hi.ms
 have h6:=run6 hv hu hT
 have ee:(bif Ar.std.zeq (Ar.std.len (eInts (leftM u m))) 0 then some true else some (Ar.std.zeq m.st steps):Option Bool)=some (overM u m||decide (m.st=steps)):=by
  unfold overM
  cases hl:leftM u m with
  | nil=>rfl
  | cons t r=>exact cnF (by simp <;> omega) rfl
 cases hb:(overM u m||decide (m.st=steps)) with
 | true =>
   have he:endsS c u mks k m sch=[(m,sch)]:=by
    cases k with
    | zero=>rfl
    | succ k =>
      unfold endsS
      have:overM u m=true:=by
       rw [Bool.or_eq_true,decide_eq_true_eq] at hb
       rcases hb with h | h
       ·exact h
       ·omega
      rw [this,cond_true]
   obtain ⟨mp',hg',e37⟩:=K86_eq hs h6 hg (eInts sch) out (eCode c) (eTab u) m.a.cl m.a.ln m.a.r0 m.a.r1 m.a.r2 m.a.r3 m.a.at_ m.b.cl m.b.ln m.b.r0 m.b.r1 m.b.r2 m.b.r3 m.b.at_ m.c0 m.c1 m.c2 m.st (eInts m.ms)
   refine ⟨mp',hg',?_⟩
   unfold K85eB
   refine bt (K56_eq (eCode c) m h2) (bt ee ?_)
   rw [hb]
   refine cnT rfl (bt e37 ?_)
   rw [he]
   unfold firstB
   simp only [List.find?_cons,List.find?_nil]
   cases linB s m.h <;> rfl
 | false =>
   have hb':=hb
   rw [Bool.or_eq_false_iff,decide_eq_false_iff_not] at hb'
   obtain ⟨k',rfl⟩ : ∃ k',k=k'+1:=⟨k-1,by have:=hb'.2;omega⟩
   have hself:=hself k' rfl
   have hll:=leftM_len h2 m
   have he:endsS c u mks (k'+1) m sch=(leftM u m).flatMap fun t=>endsS c u mks k' (stepM c u mks t.toNat m) (sch++[t]):=by
    show (bif overM u m then [(m,sch)] else _)=_
    rw [hb'.1,cond_false]
   have key:=iter_relE (step:=K85eL0 Ar.std (eCode c) (eTab u) m.a.cl m.a.ln m.a.r0 m.a.r1 m.a.r2 m.a.r3 m.a.at_ m.b.cl m.b.ln m.b.r0 m.b.r1 m.b.r2 m.b.r3 m.b.at_ m.c0 m.c1 m.c2 m.st (eCalls m.h) (eInts m.ms) steps (eInts mks) (eInts sch) s.1 s.2.1 (eTab s.2.2.1) (eTab s.2.2.2) (eInts (leftM u m)) slf) (leftM u m).length
    (fun (mp:List (D×D)) (i:Nat)=>((i:Int),mp,out)) (fun i mp=>GoodB s mp/\firstB s (((leftM u m).take i).flatMap fun t=>endsS c u mks k' (stepM c u mks t.toNat m) (sch++[t]))=none)
    (fun i x => ∃ mp' e w,GoodB s mp'/\firstB s (((leftM u m).take (i+1)).flatMap fun t=>endsS c u mks k' (stepM c u mks t.toNat m) (sch++[t]))=some e/\x = .inr (mp',eInts e.2,w))
    (fun mp => .inl (mp,out))
    (fun i mp hi' ⟨hg,hn0⟩=>by
     have hn:=zp1 hi'
     generalize (leftM u m)[i]=t at hn
     have ht:=leftM_has (List.mem_of_getElem? hn)
     have hn1:=minv_next mks hmk hv hu hi ht
     have hsl:sl Ar.std (eInts sch) 0 (Ar.std.len (eInts sch))=some (eInts sch):=by
      rw [len_enc,sl_encT (Nat.le_refl _),List.take_length]
     have e83:K124 Ar.std (eCode c) (eTab u) m.a.cl m.a.ln m.a.r0 m.a.r1 m.a.r2 m.a.r3 m.a.at_ m.b.cl m.b.ln m.b.r0 m.b.r1 m.b.r2 m.b.r3 m.b.at_ m.c0 m.c1 m.c2 m.st (eCalls m.h) (eInts m.ms)=some (cellT c u m):=by
      unfold K124
      exact bt (K146_eq _ (by simp;omega)) (bt (v:=()) (by rw [scalCalls];rfl) (bt (K54_eq (c:=[]) ⟨by decide,fun r h=>by cases h⟩ (u:=[]) ⟨by decide,fun r h=>by cases h⟩ (sch:=[]) (by decide) _ (by simp;omega)) (bt (v:=()) (by rw [scalInts];rfl) rfl)))
     obtain ⟨mp',hg',e⟩:=hself (stepM c u mks t.toNat m) (sch++[t]) mp out hn1 (tinv_next hmk hv hu hi hT ht) (by show m.st+1+(k':Int)=steps;omega) (by rw [List.length_append];show ((sch.length+1:Nat):Int)<=m.st+1;omega) hg
     have hfm:firstB s (((leftM u m).take (i+1)).flatMap fun t=>endsS c u mks k' (stepM c u mks t.toNat m) (sch++[t]))=firstB s (endsS c u mks k' (stepM c u mks t.toNat m) (sch++[t])):=by
      rw [take_succ_get hn,List.flatMap_append,firstB_app,hn0,Option.none_or]
      simp only [List.flatMap_cons,List.flatMap_nil,List.append_nil]
     cases hf:firstB s (endsS c u mks k' (stepM c u mks t.toNat m) (sch++[t])) with
     | none =>
       rw [hf] at e
       refine .inl ⟨mp',⟨hg',by rw [hfm,hf]⟩,?_⟩
       unfold K85eL0
       refine cnT (by simp;omega) (bt (gt_enc hn) (bt e83 (bt (K71_m mks hmk hv hu hi (by omega) ht) (bt hsl (bt (v:=()) (by simp [ck]) (bt (ap_enc1 (c:=cI .i64) rfl (by omega)) (bt e ?_)))))))
       refine cnT rfl ?_
       simp only [std_wrp,std_zadd,wrap1 hi' (by omega)]
     | some q =>
       rw [hf] at e
       refine .inr ⟨.inr (mp',eInts q.2,cellT c u (stepM c u mks t.toNat m)),⟨mp',q,cellT c u (stepM c u mks t.toNat m),hg',by rw [hfm,hf],rfl⟩,?_⟩
       unfold K85eL0
       refine cnT (by simp;omega) (bt (gt_enc hn) (bt e83 (bt (K71_m mks hmk hv hu hi (by omega) ht) (bt hsl (bt (v:=()) (by simp [ck]) (bt (ap_enc1 (c:=cI .i64) rfl (by omega)) (bt e ?_)))))))
       exact cnF rfl rfl)
    (fun mp _=>by unfold K85eL0;exact cnF (by simp) rfl) mp ⟨hg,rfl⟩
   rcases key with ⟨mp',⟨hg',hf⟩,e⟩ | ⟨i,x,hi',⟨mp',q,w,hg',hf,rfl⟩,e⟩
   ·rw [List.take_length] at hf
    refine ⟨mp',hg',?_⟩
    unfold K85eB
    refine bt (K56_eq (eCode c) m h2) (bt ee ?_)
    rw [hb]
    refine cnF rfl (bt e ?_)
    rw [he,hf];rfl
   ·have hw:firstB s ((leftM u m).flatMap fun t=>endsS c u mks k' (stepM c u mks t.toNat m) (sch++[t]))=some q:=by
     rw [<-List.take_append_drop (i+1) (leftM u m),List.flatMap_append,firstB_app,hf];rfl
    refine ⟨mp',hg',?_⟩
    unfold K85eB
    refine bt (K56_eq (eCode c) m h2) (bt ee ?_)
    rw [hb]
    refine cnF rfl (bt e ?_)
    rw [he,hw];rfl
theorem K85eR_ok : ∀ (k j:Nat),k<j->SelfB s c u mks steps k (K85eR Ar.std j)
 | k,0,h=>by omega
 | k,j+1,h=>visB_ok hs hmk hv hu hs0 k (K85eR Ar.std j) fun k' hk'=>K85eR_ok k' j (by omega)
theorem K85d_ok (k:Nat) (m:Mc) (sch:List Int) (mp:List (D×D)) (out:List D) (hi:MInv c u m) (hT:TInv c u m) (hst:m.st+k=steps) (hsch:(sch.length:Int)<=m.st) (hg:GoodB s mp) :
  ∃ mp',GoodB s mp'/\K85d Ar.std (eCode c) (eTab u) m.a.cl m.a.ln m.a.r0 m.a.r1 m.a.r2 m.a.r3 m.a.at_ m.b.cl m.b.ln m.b.r0 m.b.r1 m.b.r2 m.b.r3 m.b.at_ m.c0 m.c1 m.c2 m.st steps (eInts mks) (eInts sch) s.1 s.2.1 (eTab s.2.2.1) (eTab s.2.2.2) out mp (eCalls m.h) (eInts m.ms)=some (resO (firstB s (endsS c u mks k m sch)) mp' out):=by
 have h2:=ulen mks hmk hv hu
 have hhs:=hi.st
 have hms:=hi.ms
 have h6:=run6 hv hu hT
 have ee:(bif Ar.std.zeq (Ar.std.len (eInts (leftM u m))) 0 then some true else some (Ar.std.zeq m.st steps):Option Bool)=some (overM u m||decide (m.st=steps)):=by
  unfold overM
  cases hl:leftM u m with
  | nil=>rfl
  | cons t r=>exact cnF (by simp <;> omega) rfl
 cases hb:(overM u m||decide (m.st=steps)) with
 | true =>
   have he:endsS c u mks k m sch=[(m,sch)]:=by
    cases k with
    | zero=>rfl
    | succ k =>
      unfold endsS
      have:overM u m=true:=by
       rw [Bool.or_eq_true,decide_eq_true_eq] at hb
       rcases hb with h | h
       ·exact h
       ·omega
      rw [this,cond_true]
   obtain ⟨mp',hg',e37⟩:=K86_eq hs h6 hg (eInts sch) out (eCode c) (eTab u) m.a.cl m.a.ln m.a.r0 m.a.r1 m.a.r2 m.a.r3 m.a.at_ m.b.cl m.b.ln m.b.r0 m.b.r1 m.b.r2 m.b.r3 m.b.at_ m.c0 m.c1 m.c2 m.st (eInts m.ms)
   refine ⟨mp',hg',?_⟩
   unfold K85d
   refine bt (K56_eq (eCode c) m h2) (bt ee ?_)
   rw [hb]
   refine cnT rfl (bt e37 ?_)
   rw [he]
   unfold firstB
   simp only [List.find?_cons,List.find?_nil]
   cases linB s m.h <;> rfl
 | false =>
   have hb':=hb
   rw [Bool.or_eq_false_iff,decide_eq_false_iff_not] at hb'
   obtain ⟨k',rfl⟩ : ∃ k',k=k'+1:=⟨k-1,by have:=hb'.2;omega⟩
   have hself:=K85eR_ok hs hmk hv hu hs0 k' fuel (by unfold fuel;omega)
   have hll:=leftM_len h2 m
   have he:endsS c u mks (k'+1) m sch=(leftM u m).flatMap fun t=>endsS c u mks k' (stepM c u mks t.toNat m) (sch++[t]):=by
    show (bif overM u m then [(m,sch)] else _)=_
    rw [hb'.1,cond_false]
   have key:=iter_relE (step:=K85dL0 Ar.std (eCode c) (eTab u) m.a.cl m.a.ln m.a.r0 m.a.r1 m.a.r2 m.a.r3 m.a.at_ m.b.cl m.b.ln m.b.r0 m.b.r1 m.b.r2 m.b.r3 m.b.at_ m.c0 m.c1 m.c2 m.st steps (eInts mks) (eInts sch) s.1 s.2.1 (eTab s.2.2.1) (eTab s.2.2.2) (eCalls m.h) (eInts m.ms) (eInts (leftM u m))) (leftM u m).length
    (fun (mp:List (D×D)) (i:Nat)=>((i:Int),out,mp)) (fun i mp=>GoodB s mp/\firstB s (((leftM u m).take i).flatMap fun t=>endsS c u mks k' (stepM c u mks t.toNat m) (sch++[t]))=none)
    (fun i x => ∃ mp' e w,GoodB s mp'/\firstB s (((leftM u m).take (i+1)).flatMap fun t=>endsS c u mks k' (stepM c u mks t.toNat m) (sch++[t]))=some e/\x = .inr (eInts e.2,mp',w))
    (fun mp => .inl (out,mp))
    (fun i mp hi' ⟨hg,hn0⟩=>by
     have hn:=zp1 hi'
     generalize (leftM u m)[i]=t at hn
     have ht:=leftM_has (List.mem_of_getElem? hn)
     have hn1:=minv_next mks hmk hv hu hi ht
     have hsl:sl Ar.std (eInts sch) 0 (Ar.std.len (eInts sch))=some (eInts sch):=by
      rw [len_enc,sl_encT (Nat.le_refl _),List.take_length]
     have e83:K124 Ar.std (eCode c) (eTab u) m.a.cl m.a.ln m.a.r0 m.a.r1 m.a.r2 m.a.r3 m.a.at_ m.b.cl m.b.ln m.b.r0 m.b.r1 m.b.r2 m.b.r3 m.b.at_ m.c0 m.c1 m.c2 m.st (eCalls m.h) (eInts m.ms)=some (cellT c u m):=by
      unfold K124
      exact bt (K146_eq _ (by simp;omega)) (bt (v:=()) (by rw [scalCalls];rfl) (bt (K54_eq (c:=[]) ⟨by decide,fun r h=>by cases h⟩ (u:=[]) ⟨by decide,fun r h=>by cases h⟩ (sch:=[]) (by decide) _ (by simp;omega)) (bt (v:=()) (by rw [scalInts];rfl) rfl)))
     obtain ⟨mp',hg',e⟩:=hself (stepM c u mks t.toNat m) (sch++[t]) mp out hn1 (tinv_next hmk hv hu hi hT ht) (by show m.st+1+(k':Int)=steps;omega) (by rw [List.length_append];show ((sch.length+1:Nat):Int)<=m.st+1;omega) hg
     have hfm:firstB s (((leftM u m).take (i+1)).flatMap fun t=>endsS c u mks k' (stepM c u mks t.toNat m) (sch++[t]))=firstB s (endsS c u mks k' (stepM c u mks t.toNat m) (sch++[t])):=by
      rw [take_succ_get hn,List.flatMap_append,firstB_app,hn0,Option.none_or]
      simp only [List.flatMap_cons,List.flatMap_nil,List.append_nil]
     cases hf:firstB s (endsS c u mks k' (stepM c u mks t.toNat m) (sch++[t])) with
     | none =>
       rw [hf] at e
       refine .inl ⟨mp',⟨hg',by rw [hfm,hf]⟩,?_⟩
       unfold K85dL0
       refine cnT (by simp;omega) (bt (gt_enc hn) (bt e83 (bt (K71_m mks hmk hv hu hi (by omega) ht) (bt hsl (bt (v:=()) (by simp [ck]) (bt (ap_enc1 (c:=cI .i64) rfl (by omega)) (bt e ?_)))))))
       refine cnT rfl ?_
       simp only [std_wrp,std_zadd,wrap1 hi' (by omega)]
     | some q =>
       rw [hf] at e
       refine .inr ⟨.inr (eInts q.2,mp',cellT c u (stepM c u mks t.toNat m)),⟨mp',q,cellT c u (stepM c u mks t.toNat m),hg',by rw [hfm,hf],rfl⟩,?_⟩
       unfold K85dL0
       refine cnT (by simp;omega) (bt (gt_enc hn) (bt e83 (bt (K71_m mks hmk hv hu hi (by omega) ht) (bt hsl (bt (v:=()) (by simp [ck]) (bt (ap_enc1 (c:=cI .i64) rfl (by omega)) (bt e ?_)))))))
       exact cnF rfl rfl)
    (fun mp _=>by unfold K85dL0;exact cnF (by simp) rfl) mp ⟨hg,rfl⟩
   rcases key with ⟨mp',⟨hg',hf⟩,e⟩ | ⟨i,x,hi',⟨mp',q,w,hg',hf,rfl⟩,e⟩
   ·rw [List.take_length] at hf
    refine ⟨mp',hg',?_⟩
    unfold K85d
    refine bt (K56_eq (eCode c) m h2) (bt ee ?_)
    rw [hb]
    refine cnF rfl (bt e ?_)
    rw [he,hf];rfl
   ·have hw:firstB s ((leftM u m).flatMap fun t=>endsS c u mks k' (stepM c u mks t.toNat m) (sch++[t]))=some q:=by
     rw [<-List.take_append_drop (i+1) (leftM u m),List.flatMap_append,firstB_app,hf];rfl
    refine ⟨mp',hg',?_⟩
    unfold K85d
    refine bt (K56_eq (eCode c) m h2) (bt ee ?_)
    rw [hb]
    refine cnF rfl (bt e ?_)
    rw [he,hw];rfl
end
def brkR (s:Spec) (c:Code) (u:Tab) (steps:Int):List Int×Int :=
 bif decide (specE s c u=0) then (bif btw 0 steps 12 then (match firstB s (endsS c u [] steps.toNat mc0 []) with | none=>([],5) | some e=>(e.2,0)) else ([],2)) else ([],specE s c u)
def sndR (s:Spec) (c:Code) (u:Tab) (steps:Int):Bool×Int:=bif decide ((brkR s c u steps).2=5) then (true,0) else (false,(brkR s c u steps).2)
theorem endsS_sch {c:Code} {u:Tab} {mks:List Int} : ∀ (k:Nat) (m:Mc) (sch:List Int),∀ e∈endsS c u mks k m sch,e.2.length<=sch.length+k
 | 0,m,sch,e,he=>by unfold endsS at he;rw [List.mem_singleton] at he;subst he;exact Nat.le_refl _
 | k+1,m,sch,e,he=>by
   unfold endsS at he
   cases ho:overM u m with
   | true=>rw [ho,cond_true,List.mem_singleton] at he;subst he;show sch.length<=_;omega
   | false =>
     rw [ho,cond_false] at he
     obtain ⟨t,_,h2⟩:=List.mem_flatMap.1 he
     have:=endsS_sch k _ _ e h2
     rw [List.length_append,List.length_singleton] at this
     omega
section
variable {s:Spec} (hs:TabOk s.2.2.1/\TabOk s.2.2.2) {c:Code} (hc:CodeOk c) {u:Tab} (hut:TabOk u)
include hs hc hut
theorem K33_eq (steps:Int):K33 Ar.std s.1 s.2.1 (eTab s.2.2.1) (eTab s.2.2.2) (eCode c) (eTab u) steps=some (eInts (brkR s c u steps).1,(brkR s c u steps).2):=by
 unfold K33 brkR
 refine bt (K68_eq s hs c hc u hut) ?_
 by_cases he:specE s c u=0
 ·obtain ⟨hv,hk,ho,hu⟩:=specE_all he
  rw [decide_eq_true he,cond_true]
  have e34:K84 Ar.std steps=some (btw 0 steps 12):=by unfold K84;exact bt (K47_eq _ _ _) rfl
  refine cnT (by simp [he]) (bt e34 ?_)
  cases hb:btw 0 steps 12 with
  | false=>exact cnF rfl rfl
  | true =>
    have hb':=(btw_true _ _ _).1 hb
    obtain ⟨k,rfl⟩:=zp9 hb'.1
    obtain ⟨mp',hg',e⟩:=K85d_ok (mks:=[]) hs (.inl rfl) hv hu hb'.2 k mc0 [] [] [] (minv0 c u) (tinv0 c u) (by simp [mc0]) (by simp [mc0]) (GoodB.nil s)
    refine cnT rfl (bt (v:=(eCode c,eTab u)) rfl (bt e ?_))
    rw [cond_true,Int.toNat_natCast]
    cases hf:firstB s (endsS c u [] k mc0 []) with
    | none=>rfl
    | some q =>
      have hq:q∈endsS c u [] k mc0 []:=List.mem_of_find?_eq_some hf
      have hl:=endsS_sch k mc0 [] q hq
      refine cnF rfl (bt (K54_eq (c:=[]) ⟨by decide,fun r h=>by cases h⟩ (u:=[]) ⟨by decide,fun r h=>by cases h⟩ (sch:=[]) (by decide) _ (by simp at hl ⊢;omega)) rfl)
 ·rw [decide_eq_false he,cond_false]
  exact cnF (by simp [he]) rfl
theorem K32_eq (steps:Int):K32 Ar.std s.1 s.2.1 (eTab s.2.2.1) (eTab s.2.2.2) (eCode c) (eTab u) steps=some (sndR s c u steps):=by
 unfold K32 sndR
 refine bt (K33_eq hs hc hut steps) ?_
 by_cases h:(brkR s c u steps).2=5
 ·rw [decide_eq_true h];exact cnT (decide_eq_true h) rfl
 ·rw [decide_eq_false h];exact cnF (decide_eq_false h) rfl
end
end Go.Am
