import Derived.Test.YtkjeamngjnfpkaaGreatAmForget
import Derived.RangeFuncRecord
import Derived.CallsIn
import Derived.Lib.BitFns
set_option linter.unusedSimpArgs false
set_option linter.unusedSectionVars false
set_option linter.unusedVariables false
namespace Go.Am
open Go
def D.scalar:D->Bool
 | .int .. | .bool _ | .str _ | .nilIface=>true
 | _=>false
theorem RepD.scalar {K K':Addr->Option Value} {x:D} {v:Value} (hs:x.scalar=true) (h:RepD K x v):RepD K' x v:=by
 cases h <;> first | (simp [D.scalar] at hs;done) | constructor
def scalars (l:List D):Bool:=l.all fun x=>x.cells.all D.scalar
theorem a2T {l:List D} (h:scalars l=true) : ∀ x∈D.flat l,x.scalar=true:=by
 intro x hx;unfold D.flat at hx;obtain ⟨y,hy,hxy⟩:=List.mem_flatMap.1 hx;have:=List.all_eq_true.1 h y hy;exact List.all_eq_true.1 this x hxy
theorem Rel.freeze {G:Gh} {σ:St} {a:Act} {w:World} (R:Rel G σ a w) {s i k:Nat} {lo n:Int} {l:List D} (hs:σ.get s = .mref i k lo n) (hi:σ.heap[i]?=some (.arr k l)) (hfit:lo+n<=l.length) :
  ∃ G',Rel G' { σ with env:=a3d σ.env s (.d (.list k (Ar.std.sub l lo (lo+n)))),heap:=σ.heap.set i .dead } a w /\ ∀ m,Ext m G w G' w:=by
 have hrep:=R.slots s;rw [hs] at hrep;generalize hv:a.tmps.getD s Go.undef=v at hrep;cases hrep with | mref _ _ _ _ _ b off cap hnh hlo hn hcap hbo =>
 obtain ⟨vs,e,hO,hw,hu,hsz,h1,hh⟩:=R.h.objs i _ hi;have hil:i<σ.heap.length:=(zp2.1 hi).1;have hfl:=a0e hu;let B:=G.β (.o i);let G':Gh:={ G with K:=fun x=>if x.block=B/\x.spot=none/\x.off<(D.flat l).length then some (vs.getD x.off Go.undef) else G.K x,O:=fun x=>if x=B then none else G.O x }
 have hdisj:=R.h.disj _ _ _ hO;have hKle:KLe G.K G'.K:=by
  intro x v h;simp only [G'];rw [if_neg];exact h;rintro ⟨hb,hsp,_⟩;obtain ⟨xb,xo,xs⟩:=x;simp at hb hsp;subst hb hsp;rw [hdisj.2 xo (Nat.zero_le _)] at h;cases h
 have hOold : ∀ b' x f',x ≠ .o i->G.O b'=some (x,f')->G'.O b'=some (x,f'):=by
  intro b' x f' hx h;have:b'≠B:=by rintro rfl;rw [show G.O B=_ from hO] at h;simp at h;exact hx h.1.symm
  simp only [G'];rw [if_neg this];exact h
 have hpr:Pres G G' w w (fun x=>x ≠ .o i) :=
  ⟨hKle,fun b' x f' hx h=>⟨hOold b' x f' hx h,rfl⟩,fun _ _=>rfl,Nat.le_refl _⟩
 have hkept : ∀ x v,G'.K x=some v->w.cell? x=some v:=by
  intro x v h;simp only [G'] at h;split at h
  ·rename_i hc;obtain ⟨xb,xo,xs⟩:=x;obtain ⟨h1',h2',h3'⟩:=hc;simp at h1' h2' h3' h;subst h1' h2';rw [a1m hw (by omega)];simpa using h
  exact R.h.kept x v h
 obtain ⟨LO,rfl⟩:=zp9 hlo;obtain ⟨N,rfl⟩:=zp9 hn;have hsubl:Ar.std.sub l LO (LO+N)=(l.drop LO).take N:=by
  simp only [Ar.std];congr 1
  all_goals omega

 have hlist:RepD G'.K (.list k ((l.drop LO).take N)) (.slice (some ⟨b,off,none⟩) N cap):=by
  by_cases hN:N=0
  ·subst hN;simp only [List.take_zero];exact RepD.empty _ _ _ _ _
  obtain ⟨rfl,rfl⟩:=hbo (by omega);simp only [Int.toNat_natCast];have hus:=hu.sub LO N;have hln:((l.drop LO).take N).length=N:=by simp;omega
  have hfe:D.flat ((l.drop LO).take N)=((D.flat l).drop (LO*k)).take (N*k):=by
   rw [a4T (fun x hx=>hu x (List.mem_of_mem_drop hx)),a4S hu]
  have hflN:=a0e hus;have hmul:LO*k+N*k<=l.length*k:=by rw [<-Nat.add_mul];exact Nat.mul_le_mul_right _ (by omega)
  have hgetj : ∀ (j:Nat) (hj:j<(D.flat ((l.drop LO).take N)).length),(D.flat ((l.drop LO).take N))[j]=(D.flat l)[LO*k+j]'(by rw [hflN,hln] at hj;omega):=by
   intro j hj;simp only [hfe,List.getElem_take,List.getElem_drop]
  have:=RepD.list (K:=G'.K) k ((l.drop LO).take N) (G.β (.o i)) (LO*k) cap (fun j=>vs.getD (LO*k+j) Go.undef) hus (by rw [hln];simpa using hcap)
   (fun j hj=>by
    rw [hflN,hln] at hj;have hjj:LO*k+j<(D.flat l).length:=by omega
    simp [G',B,hjj])
   (fun j hj=>by rw [hflN,hln] at hj;exact h1 _ (by omega))
   (fun j hj=>by
    rw [hgetj j hj];rw [hflN,hln] at hj;exact (hh _ (by omega)).mono hKle)
  rwa [hln] at this
 refine ⟨G',⟨⟨⟨fun b' x f' h => ?_⟩,by simpa [G'] using R.h.nh,fun i' ob hob => ?_,hkept,fun b' x f' h => ?_⟩,R.size,fun t => ?_,fun t r off' ht => ?_,?_⟩,fun m=>⟨hKle,fun x v h => ?_,fun b' hb h=>⟨rfl,?_⟩,Nat.le_refl _,fun _ _=>rfl,rfl,rfl,fun _ _=>rfl,rfl,Nat.le_refl _⟩⟩
 ·simp only [G'] at h;split at h
  ·cases h
  exact R.h.sane.no b' x f' h
 ·by_cases hii:i=i'
  ·subst hii;simp [List.getElem?_set_self hil] at hob;subst hob;trivial
  simp only at hob;rw [List.getElem?_set_ne hii] at hob;exact (R.h.objs i' ob hob).pres R.h.sane (by rw [<-R.h.nh];exact (zp2.1 hob).1) hpr (by simp;exact fun e=>hii e.symm) (by simp)
 ·simp only [G'] at h ⊢;split at h
  ·cases h
  rename_i hne;refine ⟨(R.h.disj b' x f' h).1,fun j hj => ?_⟩;rw [if_neg (by intro hc;exact hne hc.1)];exact (R.h.disj b' x f' h).2 j hj
 ·simp only [St.get,a0f];split
  ·rename_i e';subst e';rw [hv,hsubl];exact .d _ _ _ (by simpa using hlist)
  exact (R.slots t).pres R.h.sane hpr (by simp) (fun _ _ _=>rfl) (fun t' e' _=>⟨rfl,fun j=>by simp⟩)
 ·simp only [St.get,a0f] at ht ⊢;split at ht
  ·cases ht
  obtain ⟨cs,hcs⟩:=R.places t r off' ht;refine ⟨cs,?_⟩;split
  ·rename_i e';subst e';rw [show σ.get s = .lbox cs from hcs] at hs;cases hs
  exact hcs
 ·refine ⟨R.df.1,fun x hx => ?_⟩;obtain ⟨r0,h1,h2,h3⟩:=R.df.2 x hx;exact ⟨r0,h1,hOold _ _ _ (by simp) h2,h3⟩
 ·simp only [G'] at h;split at h
  ·rename_i hc;exact .inr (.inl ⟨_,by rw [hc.1];exact hO⟩)
  exact .inl h
 simp only [G'];split
 ·rfl
 exact h
theorem Rel.freezeBox {G:Gh} {σ:St} {a:Act} {w:World} (R:Rel G σ a w) {s:Nat} {cs:List D} (hs:σ.get s = .lbox (cs.map .d)) (hp : ∀ t off,σ.get t ≠ .place s off) :
  ∃ G',Rel G' { σ with env:=a3d σ.env s (.iptr cs) } a w /\ ∀ m,Ext m G w G' w:=by
 obtain ⟨vs,e,hO,hw,hsz,hh,hcell,hat⟩:=a4F R hs;rw [List.length_map] at hsz;let B:=G.β (.s s);let G':Gh:={ G with K:=fun x=>if x.block=B/\x.spot=none/\x.off<cs.length then some (vs.getD x.off Go.undef) else G.K x,O:=fun x=>if x=B then none else G.O x }
 have hdisj:=R.h.disj _ _ _ hO;have hKle:KLe G.K G'.K:=by
  intro x v h;simp only [G'];rw [if_neg];exact h;rintro ⟨hb,hsp,_⟩;obtain ⟨xb,xo,xs⟩:=x;simp at hb hsp;subst hb hsp;rw [hdisj.2 xo (Nat.zero_le _)] at h;cases h
 have hOold : ∀ b' x f',x ≠ .s s->G.O b'=some (x,f')->G'.O b'=some (x,f'):=by
  intro b' x f' hx h;have:b'≠B:=by rintro rfl;rw [show G.O B=_ from hO] at h;simp at h;exact hx h.1.symm
  simp only [G'];rw [if_neg this];exact h
 have hpr:Pres G G' w w (fun x=>x ≠ .s s) :=
  ⟨hKle,fun b' x f' hx h=>⟨hOold b' x f' hx h,rfl⟩,fun _ _=>rfl,Nat.le_refl _⟩
 have hkept : ∀ x v,G'.K x=some v->w.cell? x=some v:=by
  intro x v h;simp only [G'] at h;split at h
  ·rename_i hc;obtain ⟨xb,xo,xs⟩:=x;obtain ⟨h1',h2',h3'⟩:=hc;simp at h1' h2' h3' h;subst h1' h2';rw [a1m hw (by omega)];simpa using h
  exact R.h.kept x v h
 refine ⟨G',⟨⟨⟨fun b' x f' h => ?_⟩,by simpa [G'] using R.h.nh,fun i' ob hob => ?_,hkept,fun b' x f' h => ?_⟩,R.size,fun t => ?_,fun t r off' ht => ?_,?_⟩,fun m=>⟨hKle,fun x v h => ?_,fun b' hb h=>⟨rfl,?_⟩,Nat.le_refl _,fun _ _=>rfl,rfl,rfl,fun _ _=>rfl,rfl,Nat.le_refl _⟩⟩
 ·simp only [G'] at h;split at h
  ·cases h
  exact R.h.sane.no b' x f' h
 ·exact (R.h.objs i' ob hob).pres R.h.sane (by rw [<-R.h.nh];exact (zp2.1 hob).1) hpr (by simp) (by simp)
 ·simp only [G'] at h ⊢;split at h
  ·cases h
  rename_i hne;refine ⟨(R.h.disj b' x f' h).1,fun j hj => ?_⟩;rw [if_neg (by intro hc;exact hne hc.1)];exact (R.h.disj b' x f' h).2 j hj
 ·simp only [St.get,a0f];split
  ·rename_i e';subst e';rw [hat];refine .iptr _ _ _ _ (fun j=>vs.getD j Go.undef) (fun j hj => ?_) (fun j hj => ?_) (fun j hj => ?_)
   ·simp [G',B,hj]
   ·exact (hh j (by simpa using hj)).oneCell (hcell _ (zp6 _))
   have:=hh j (by simpa using hj);rw [List.getElem_map] at this;cases this with | d _ _ _ h=>exact h.mono hKle
  rename_i hne;exact (R.slots t).pres R.h.sane hpr (by simp;exact fun e=>hne e.symm) (fun _ _ _=>rfl) (fun t' e' _=>⟨rfl,fun j=>by simp⟩)
 ·simp only [St.get,a0f] at ht ⊢;split at ht
  ·cases ht
  obtain ⟨cs,hcs⟩:=R.places t r off' ht;refine ⟨cs,?_⟩;split
  ·rename_i e';subst e';exact absurd ht (hp t off')
  exact hcs
 ·refine ⟨R.df.1,fun x hx => ?_⟩;obtain ⟨r0,h1,h2,h3⟩:=R.df.2 x hx;exact ⟨r0,h1,hOold _ _ _ (by simp) h2,h3⟩
 ·simp only [G'] at h;split at h
  ·rename_i hc;exact .inr (.inl ⟨_,by rw [hc.1];exact hO⟩)
  exact .inl h
 simp only [G'];split
 ·rfl
 exact h
def AV.placeOf (s:Nat):AV->Bool
 | .place r _=>r == s
 | _=>false
theorem noPlace {s:Nat} : ∀ {env:List (Nat×AV)},env.all (fun p => !p.2.placeOf s)=true -> ∀ t off,a1T env t ≠ .place s off
 | [],_,t,off=>by simp [a1T]
 | (u,v)::r,h,t,off=>by
   simp only [List.all_cons,zp4] at h;simp only [a1T];split
   ·rintro rfl;simp [AV.placeOf] at h
   exact noPlace h.2 t off
section
variable {P:Program} {m:Nat} {Q:Exit->St->Prop} {σ:St} {c:Code}
theorem AWp.freeze {s i k:Nat} {lo n:Int} {l l':List D} (hs:σ.get s = .mref i k lo n) (hi:σ.heap[i]?=some (.arr k l)) (hfit:lo+n<=l.length) (hl:Ar.std.sub l lo (lo+n)=l')
  (h:AWp P m c Q { σ with env:=a3d σ.env s (.d (.list k l')),heap:=σ.heap.set i .dead }):AWp P m c Q σ:=by
 intro r n' G a w hm R;obtain ⟨G',R',hE⟩:=R.freeze hs hi hfit;rw [hl] at R';refine wpIn_mono (h r n' G' a w (by have h1:=R'.h.nh;have h2:=R.h.nh;simp at h1;omega) R') ?_;rintro e a' w' ⟨σ',G2,R2,hE2,hm2,hQ⟩;exact ⟨σ',G2,R2,(hE m).trans hE2,hm2,hQ⟩
theorem AWp.freezeBox (s:Nat) (cs:List D) (hs:σ.get s = .lbox (cs.map .d)) (hp:σ.env.all (fun p => !p.2.placeOf s)=true)
  (h:AWp P m c Q { σ with env:=a3d σ.env s (.iptr cs) }):AWp P m c Q σ:=by
 intro r n' G a w hm R;obtain ⟨G',R',hE⟩:=R.freezeBox hs (noPlace hp);refine wpIn_mono (h r n' G' a w (by have h1:=R'.h.nh;have h2:=R.h.nh;simp at h1;omega) R') ?_;rintro e a' w' ⟨σ',G2,R2,hE2,hm2,hQ⟩;exact ⟨σ',G2,R2,(hE m).trans hE2,hm2,hQ⟩
end
def b0y (P:Program) (l:Nat) (args:List AV) (H:List Obj) (r:AV) (H':List Obj):Prop :=
 r.isLocal=false/\r.inb H'.length=true/\a0s H'.length H'=true/\H.length<=H'.length /\ ∀ (n:Nat) (G:Gh) (w:World) (vs:Array Value),vs.size=args.length->(∀ (i:Nat) (hi:i<args.length),RepV G w .no args[i] (vs.getD i Go.undef))->RelH G H w ->
  (∀ b ℓ f,G.O b=some (ℓ,f) -> ∃ i,ℓ.root = .o i) ->
  ∃ f tmps assign body,(Instr.yield (G.β (.o l)) vs).run P w = .ok (.round (G.β (.o l)) f tmps assign body) w /\
    RoundIn (Wd none) n P (G.β (.o l)) f tmps assign body w (fun e w' => ∃ v G',e = .returned v/\RepV G' w' .ret r v/\RelH G' H' w'/\Ext H.length G w G' w')
section
variable {P:Program} {T:a0m} {m:Nat} {Q:Exit->St->Prop} {σ:St} {ops:Array Oper} {o:Oper} {l:List Oper} {an:Ann}
theorem b5W {y:Nat} {args:List AV} (h:callY T σ o=some (y,args)) {G:Gh} {a:Act} {w:World} (R:Rel G σ a w) :
  (∀ c,o.op ≠ .defer c) /\ ∃ vs:Array Value,(execOp a.eval o).run P w=(Instr.yield (G.β (.o y)) vs).run P w/\vs.size=args.length /\ ∀ (i:Nat) (hi:i<args.length),RepV G w .no args[i] (vs.getD i Go.undef):=by
 unfold callY at h;split at h
 ·rename_i t xs ts hop;refine ⟨by simp [hop],?_⟩;split at h
  ·rename_i l' vs hg hvs;split at h
   ·rename_i hsz;simp at h;obtain ⟨rfl,rfl⟩:=h;obtain ⟨e1,e2⟩:=mapM_some hvs;have hx:a.eval (.tmp t) = .func (.yield (G.β (.o l'))) #[] #[]:=by
     have hrep:=R.slots t;rw [hg] at hrep;show a.tmps.getD t Go.undef=_;generalize a.tmps.getD t Go.undef=v at hrep;cases hrep;rfl
    refine ⟨xs.map a.eval,?_,by simp [e1];omega,fun i hi => ?_⟩
    ·simp only [execOp,hop,Sem.run_bind,resolve,hx,Deferred.ofValue,Sem.run_pure,Result.andThen_ok,invoke];simp
    simp at hi;have hz:i<(xs.toList.zip ts.toList).length:=by omega
    have:=(a1l (a8n σ) R (e2 i hz hi) .no).1.copy .no;have hxs:i<xs.size:=by simp at hz;omega
    simpa [zp5,hxs] using this
   cases h
  cases h
 cases h
theorem b2r {r:Option Nat} {n:Nat} {l:Nat} {f:FuncId} {tmps:Array Value} {x y:Code} {w:World} {R:Ending->World->Prop} (h:RoundIn (Wd none) n P l f tmps x y w R):RoundIn (Wd r) n P l f tmps x y w R:=h
end
section
variable {P:Program} {T:a0m} {m i:Nat} {ops:Array Oper} {σ:St} {o:Oper} {an:Ann}
theorem a2K.callY (ho:ops[i]?=some o) {y:Nat} {args:List AV} {r:AV} {H rest H':List Obj} {d:Nat} (hw:a2I ops.toList σ o=some true) (hcall:Am.callY T σ o=some (y,args)) (hH:σ.heap=H++rest)
  (hr:rest=[]\/H'.length=H.length) (hin:a0s H.length H=true)
  (hargs:a3L H.length args=true) (hd:o.dst=some d) (hlt:d<σ.n) (hb:(σ.get d).isBox=false) (hfr:args.all AV.free=true) (hc:b0y P y args H r H') :
  a2K P m ops i σ { sets:=[(d,r)],heap:=some (H'++rest),rd:=a0q ops.toList o,hr:=true,ho:=[],low:=[] }:=by
 intro τ hrd hhp _ hn hm;have hheap:τ.heap=H++rest:=(hhp rfl).trans hH;obtain ⟨hrl,hri,hin',hHH,hcc⟩:=hc;refine ⟨by rw [hheap] at hm;simp only [Rec.app,St.upd,Option.getD_some,List.length_append,b4b] at *;omega,fun rr n G a w Q' K R hK => ?_⟩;have hdm:d∈a0q ops.toList o:=by simp [a0q,hd]
 have hbτ:(τ.get d).isBox=false:=by rw [hrd d hdm];exact hb
 unfold wpOpIn;simp only [ho];rw [if_pos (a2A (b:=true) (by rw [a3m (σ:=σ) hrd];exact hw) R)];obtain ⟨hnd,vs,hrun,hvs,hrep⟩:=b5W (P:=P) (T:=T) (by rw [b2p (σ:=σ) hrd];exact hcall) R;have RH:RelH G (H++rest) w:=by rw [<-hheap];exact R.h
 have hRh:=RH.handed hin;have hfr' : ∀ c∈args,c.free=true:=by simpa using hfr
 have hsub:Sub G (G.handed H.length) w w (fun ℓ=>ℓ = .no) H.length :=
  ⟨KLe.refl _,fun b ℓ f hl hO=>absurd (hl▸rfl) (R.h.sane.no b ℓ f hO),fun _ _=>rfl,Nat.le_refl _⟩
 refine ⟨fun _ _=>trivial,?_⟩;rw [Oper.semAt_eq _ _ _ hnd,hrun];obtain ⟨f,tmps,asg,body,hy,hround⟩:=hcc (n-1) (G.handed H.length) w vs hvs (fun i hi=>(hrep i hi).sub R.h.sane hsub rfl (a0R hargs i hi) (AV.free_isLocal (hfr' _ (zp6 hi)))) hRh (fun b ℓ f hO=>by
  have:=(a2B hO).2;cases ℓ <;> simp [a1n] at this
  ·rename_i i;exact ⟨i,rfl⟩
  rename_i i j;exact ⟨i,rfl⟩)
 rw [show (G.handed H.length).β=G.β from rfl] at hy hround;rw [hy];refine ⟨fun hh=>by simp [Wd] at hh,?_⟩;refine RoundIn.mono (b2r hround) ?_;rintro e w' ⟨v,G3,rfl,hv,R3,hE⟩;obtain ⟨R',hext⟩:=R.back (H:=H) (rest:=rest) hheap hr hHH R3 hE hin' hv hrl hri (by rw [hn];exact hlt) hbτ;show K (a.put o.dst v) w';rw [hd];refine hK _ _ w' ?_ (hext m (by rw [<-R.h.nh];exact hm));simpa [Rec.app,St.upd,a0A,a3Y] using R'
variable {K:St->Prop} {l:List Oper} {xs:List Rec}
theorem a1h.stepY (hT:TOk P T) {y:Nat} {args:List AV} {o:Oper} {rest:List Oper} {σ1:St} {xs1:List Rec} {r:AV} {H Hr H':List Obj} {d:Nat} (hl:l=ops.toList.drop xs.length) (h : ∀ A:Ar,A=Ar.std->a9z A T an ops.toList l σ xs = .yield y args o rest σ1 xs1)
  (hH:σ1.heap=H++Hr) (hr:Hr=[]\/H'.length=H.length) (hin:a0s H.length H=true) (hargs:a3L H.length args=true) (hd:o.dst=some d) (hlt:d<σ1.n) (hb:(σ1.get d).isBox=false) (hfr:args.all AV.free=true) (hc:b0y P y args H r H')
  (k:a1h P m ops rest (xs1++[{ sets:=[(d,r)],heap:=some (H'++Hr),rd:=a0q ops.toList o,hr:=true,ho:=[],low:=[] }]) K (σ1.upd [(d,r)] (some (H'++Hr)))):a1h P m ops l xs K σ :=
 a1h.run (an:=an) hT l xs σ hl (by
  rw [h _ rfl];exact fun hcall hw ho=>a1h.cons (a2K.callY ho hw hcall hH hr hin hargs hd hlt hb hfr hc) k)
end
theorem b0z {G:Gh} {w:World} {b:Nat} {ℓ:Loc} (hO:G.O b=some (ℓ,0)) (ob:Go.Obj):Pres G G w (w.putObj b ob) (fun x=>x≠ℓ) :=
 ⟨KLe.refl _,fun b' x f hx h=>⟨h,World.putObj_heap_other (by rintro rfl;rw [hO] at h;simp at h;exact hx h.1.symm)⟩,fun _ _=>rfl,Nat.le_refl _⟩
theorem Ext.putObj {m:Nat} {G:Gh} {w:World} {b:Nat} {p:Loc×Nat} (hO:G.O b=some p) {r0:Loop} (hb:w.heap[b]?=some (.loop r0)) (r:Loop):Ext m G w G (w.putObj b (.loop r)) where
 K:=KLe.refl _
 new x v h := .inl h
 others b' _ h:=⟨World.putObj_heap_other (by rintro rfl;rw [hO] at h;cases h),h⟩
 size:=by simp
 β _ _:=rfl
 io:=by
  refine ⟨rfl,rfl,fun a _ => ?_,rfl,Nat.le_refl _⟩;unfold World.frozen?;by_cases h:a.block=b
  ·subst h;rw [hb,World.putObj_heap_same (Array.getElem?_eq_some_iff.1 hb).1]
  rw [World.putObj_heap_other h]
theorem b0A {G:Gh} {w:World} {b:Nat} {ℓ:Loc} (hk : ∀ x v,G.K x=some v->w.cell? x=some v) (hd : ∀ j,G.K ⟨b,j,none⟩=none) (hO:G.O b=some (ℓ,0)) (ob:Go.Obj) :
  ∀ x v,G.K x=some v->(w.putObj b ob).cell? x=some v:=by
 intro x v h;have hx:=hk x v h;have hne:x.block≠b:=by
  rintro rfl;have hspot:x.spot=none:=by
   unfold World.cell? at hx;split at hx
   ·split at hx
    ·cases hx
    rename_i hsp;simpa using hsp
   cases hx
  obtain ⟨b,j,s⟩:=x;simp at hspot;subst hspot;rw [hd j] at h;cases h
 unfold World.cell? at *
 rwa [World.putObj_heap_other hne]
theorem Rel.setLoop {G:Gh} {σ:St} {a:Act} {w:World} (R:Rel G σ a w) {i:Nat} {L:ALoop} (hi:σ.heap[i]?=some (.loop L)) :
  ∃ r:Loop,w.heap[G.β (.o i)]?=some (.loop r)/\r.state=L.st/\r.pending=L.pending/\r.params=L.params/\r.assign=L.assign/\r.body=L.body /\
    ∀ st p,Rel G { σ with heap:=σ.heap.set i (.loop { L with st:=st,pending:=p }) } a (w.putObj (G.β (.o i)) (.loop { r with state:=st,pending:=p })) /\
      ∀ m,Ext m G w G (w.putObj (G.β (.o i)) (.loop { r with state:=st,pending:=p })):=by
 obtain ⟨fn,tmps,D,hO,hw,hs,hh,hf⟩:=R.h.objs i _ hi;refine ⟨_,hw,rfl,rfl,rfl,rfl,rfl,fun st p=>⟨?_,fun m=>Ext.putObj hO hw _⟩⟩;have hpr:=b0z (w:=w) hO (.loop { state:=st,pending:=p,fn,tmps,params:=L.params,assign:=L.assign,body:=L.body,defers:=D });have hil:i<σ.heap.length:=(zp2.1 hi).1;refine ⟨⟨R.h.sane,by simpa using R.h.nh,fun i' ob hob => ?_,b0A R.h.kept (fun j=>(R.h.disj _ _ _ hO).2 j (Nat.zero_le _)) hO _,fun b ℓ f h => ?_⟩,R.size,?_,R.places,?_⟩
 ·by_cases hii:i=i'
  ·subst hii;simp only [List.getElem?_set_self hil] at hob;injection hob with hob;subst hob
   refine ⟨fn,tmps,D,hO,World.putObj_heap_same (R.h.disj _ _ _ hO).1,hs,fun t=>(hh t).pres R.h.sane (hpr.no R.h.sane) rfl (fun r off e=>absurd (hf t) (by rw [e];simp [AV.free])) (fun t e=>by cases e),hf⟩
  simp only [List.getElem?_set_ne hii] at hob;exact (R.h.objs i' ob hob).pres R.h.sane (by rw [<-R.h.nh];exact (zp2.1 hob).1) hpr (by simp;exact fun e=>hii e.symm) (by simp)
 ·have:=R.h.disj b ℓ f h;exact ⟨by simpa using this.1,this.2⟩
 ·intro t;exact (R.slots t).pres R.h.sane hpr (by simp) (fun _ _ _=>rfl) (fun t' e' _=>⟨rfl,fun j=>by simp⟩)
 refine ⟨R.df.1,fun x hx => ?_⟩;obtain ⟨r0,h1,h2,h3⟩:=R.df.2 x hx;exact ⟨r0,h1,h2,by rw [World.putObj_heap_other (by rintro rfl;rw [hO] at h2;cases h2)];exact h3⟩
def b4g (y:Nat) (L:ALoop) (b:Bool) (H':List Obj):Exit->St->Prop
 | .normal,σ=>b=true/\σ.heap[y]?=some (.loop { L with st := .busy }) /\ ∃ junk,σ.heap.set y (.loop { L with st := .ready,pending:=none })=H'++junk
 | .ret,σ=>b=false/\σ.heap[y]?=some (.loop { L with st := .busy }) /\ ∃ junk,σ.heap.set y (.loop { L with st := .done,pending:=some .ret })=H'++junk
 | .exit id,σ=>b=false/\σ.heap[y]?=some (.loop { L with st := .busy }) /\ ∃ junk,σ.heap.set y (.loop { L with st := .done,pending:=some (.exit id) })=H'++junk
 | _,_=>False
theorem a6N {G:Gh} {w:World} : ∀ (ps:List Tmp) (avs:List AV) (vs:List Value) (env:List (Nat×AV)) (tmps:Array Value),avs.length=ps.length->vs.length=ps.length->(∀ p∈ps,p<tmps.size) ->
  (∀ (i:Nat) (hi:i<avs.length),RepV G w .no avs[i] (vs.getD i Go.undef)/\avs[i].free=true)->(∀ t,RepV G w .no (a1T env t) (tmps.getD t Go.undef))->(∀ t,(a1T env t).free=true) ->
  ((ps.zip vs).foldl (fun tmps (p:Tmp×Value)=>tmps.setIfInBounds p.1 p.2) tmps).size=tmps.size /\
    (∀ t,RepV G w .no (a1T (a0A env (ps.zip avs)) t) (((ps.zip vs).foldl (fun tmps (p:Tmp×Value)=>tmps.setIfInBounds p.1 p.2) tmps).getD t Go.undef)) /\ ∀ t,(a1T (a0A env (ps.zip avs)) t).free=true
 | [],avs,vs,env,tmps,h1,h2,_,_,h5,h6=>⟨rfl,h5,h6⟩
 | p::ps,[],_,_,_,h1,_,_,_,_,_=>by simp at h1
 | p::ps,_::_,[],_,_,_,h2,_,_,_,_=>by simp at h2
 | p::ps,c::avs,v::vs,env,tmps,h1,h2,h3,h4,h5,h6=>by
   have hp:p<tmps.size:=h3 p (by simp);have h0:=h4 0 (by simp);simp at h0;obtain ⟨k1,k2,k3⟩:=a6N ps avs vs (a3d env p c) (tmps.setIfInBounds p v) (by simpa using h1) (by simpa using h2) (fun q hq=>by simpa using h3 q (by simp [hq])) (fun i hi=>h4 (i+1) (by simpa using hi))
    (fun t=>by
     rw [a0f,a1G _ _ _ _ hp];split
     ·exact h0.1
     ·exact h5 t) (fun t=>by
     rw [a0f];split
     ·exact h0.2
     exact h6 t)
   exact ⟨by simpa using k1,k2,k3⟩
theorem b0y.mk {P:Program} {y:Nat} {L:ALoop} {args:List AV} {H H':List Obj} {b:Bool} (hy:H[y]?=some (.loop L)) (hst:L.st = .ready) (hsz:args.length=L.params.size) (hps:L.params.toList.all (fun p=>decide (p<L.n))=true)
  (hfr:args.all AV.free=true) (hin:a0s H'.length H'=true) (hHH:H.length<=H'.length)
  (h:AWp P H.length L.assign (fun e σ1=>e = .normal/\σ1.heap[y]?=some (.loop L)/\AWp P H.length L.body (b4g y L b H') { σ1 with heap:=σ1.heap.set y (.loop { L with st := .busy }) })
   { env:=a0A L.env (L.params.toList.zip args),heap:=H,n:=L.n }):b0y P y args H (.d (.bool b)) H':=by
 refine ⟨rfl,rfl,hin,hHH,?_⟩;intro n G w vs hvs hrep RH hO;obtain ⟨fn,tmps,D,hOl,hw,hs,hh,hf⟩:=RH.objs y _ hy;have hfr' : ∀ c∈args,c.free=true:=by simpa using hfr
 have hyl:y<H.length:=(zp2.1 hy).1;obtain ⟨k1,k2,k3⟩:=a6N (G:=G) (w:=w) L.params.toList args vs.toList L.env tmps (by simpa using hsz) (by simp;omega) (fun p hp=>by rw [hs];simpa using List.all_eq_true.1 hps p hp)
  (fun i hi=>⟨by simpa [List.getD,zp5] using hrep i hi,hfr' _ (zp6 hi)⟩) hh hf
 have hyield:=run_yield (P:=P) (args:=vs) hw (by simp [hvs,hsz]);refine ⟨fn,_,L.assign,L.body,hyield,?_⟩;have hfold:((L.params.zip vs).foldl (fun tmps (x:Tmp×Value)=>match x with | (t,a)=>tmps.setIfInBounds t a) tmps)=(L.params.toList.zip vs.toList).foldl (fun tmps (p:Tmp×Value)=>tmps.setIfInBounds p.1 p.2) tmps:=by
  rw [<-Array.foldl_toList];simp
 have R:Rel G { env:=a0A L.env (L.params.toList.zip args),heap:=H,n:=L.n } { tmps:=(L.params.toList.zip vs.toList).foldl (fun tmps (p:Tmp×Value)=>tmps.setIfInBounds p.1 p.2) tmps,defers:=[] } w:=by
  refine ⟨RH,by rw [k1,hs],fun t=>(k2 t).anywhere (k3 t) _,fun t r off ht => ?_,⟨by simp,fun d hd=>by simp at hd⟩⟩;have:=k3 t;simp only [St.get] at ht;rw [ht] at this;simp [AV.free] at this
 refine roundIn_of_wpIn (by trivial) ?_;rw [hfold];refine wpIn_mono (h (some (G.β (.o y))) n G _ w (by rw [RH.nh];exact Nat.le_refl _) R) ?_;rintro e a1 w1 ⟨σ1,G1,R1,hE1,hm1,rfl,hy1,hbody⟩;have hβ1:G1.β (.o y)=G.β (.o y):=hE1.β y hyl;obtain ⟨r1,e1,e2,e3,e4,e5,e6,hset⟩:=R1.setLoop hy1;rw [hβ1] at e1 hset;obtain ⟨R2,hE2⟩:=hset .busy L.pending;refine ⟨_,run_beginRound e1 (by rw [e2,hst]),?_⟩;have hL:({ L with st := .busy,pending:=L.pending }:ALoop)={ L with st := .busy }:=rfl
 have hr1:({ r1 with state := .busy }:Loop)={ r1 with state := .busy,pending:=L.pending }:=by rw [<-e3]
 rw [hr1];refine wpIn_mono (hbody (some (G.β (.o y))) n G1 a1 _ hm1 R2) ?_;have hE12:=hE1.trans (hE2 H.length)

 have fin : ∀ (jump:Option Code) (σ3:St) (G3:Gh) (a3:Act) (w3:World),Rel G3 σ3 a3 w3->Ext H.length G1 (w1.putObj (G.β (.o y)) (.loop { r1 with state := .busy,pending:=L.pending })) G3 w3->H.length<=G3.nh ->
   b=jump.isNone->σ3.heap[y]?=some (.loop { L with st := .busy })->(∃ junk,σ3.heap.set y (.loop { L with st:=if jump.isNone then .ready else .done,pending:=jump })=H'++junk) ->
   ∃ v w',(Instr.endRound (G.β (.o y)) jump).run P w3 = .ok v w' /\ ∃ v' G',Ending.returned v = .returned v'/\RepV G' w' .ret (.d (.bool b)) v'/\RelH G' H' w'/\Ext H.length G w G' w':=by
  intro jump σ3 G3 a3 w3 R3 hE3 hm3 hb hy3 ⟨junk,hjunk⟩;have hβ3:G3.β (.o y)=G.β (.o y):=(hE3.β y hyl).trans hβ1;obtain ⟨r3,f1,f2,f3,f4,f5,f6,hset3⟩:=R3.setLoop hy3;rw [hβ3] at f1 hset3;obtain ⟨R4,hE4⟩:=hset3 (if jump.isNone then .ready else .done) jump
  refine ⟨_,_,run_endRound jump f1,_,{ G3 with nh:=H'.length },rfl,?_,?_,?_⟩
  ·rw [hb];exact .d _ _ _ (.bool _)
  ·have hle:H'.length<=(σ3.heap.set y (.loop { L with st:=if jump.isNone then .ready else .done,pending:=jump })).length:=by rw [hjunk];simp
   have htake:(σ3.heap.set y (.loop { L with st:=if jump.isNone then .ready else .done,pending:=jump })).take H'.length=H':=by rw [hjunk];simp
   have:=R4.h.fewer (k:=H'.length) hle (by rw [htake];exact hin);rw [htake] at this;exact this
  exact ((hE12.trans hE3).trans (hE4 H.length)).nh _
 rintro e a3 w3 ⟨σ3,G3,R3,hE3,hm3,hq⟩;cases e with
 | normal =>
   obtain ⟨hb,h1,h2⟩:=hq;obtain ⟨v,w',h3,h4⟩:=fin none σ3 G3 a3 w3 R3 hE3 hm3 hb h1 h2;exact ⟨v,w',h3,h4⟩
 | ret =>
   obtain ⟨hb,h1,h2⟩:=hq;obtain ⟨v,w',h3,h4⟩:=fin (some .ret) σ3 G3 a3 w3 R3 hE3 hm3 hb h1 h2;exact ⟨v,w',h3,h4⟩
 | exit id =>
   obtain ⟨hb,h1,h2⟩:=hq;obtain ⟨v,w',h3,h4⟩:=fin (some (.exit id)) σ3 G3 a3 w3 R3 hE3 hm3 hb h1 h2;exact ⟨v,w',h3,h4⟩
 | goto l=>exact hq.elim
 | panic c=>exact hq.elim
 | outgrown=>exact hq.elim
theorem a5O {P:Program} {f:FuncId} (hc:a1N P f=true) (args:Array Value) (w:World):(callFunc f args).run P w = .ok (.enter f args) w:=by
 unfold a1N at hc;unfold callFunc;simp only [Sem.run_bind,run_program,Result.andThen_ok];split at hc
 ·rename_i fn hfn';simp at hc;rw [hfn'];simp [hc.1,Option.isSome_iff_ne_none.1 hc.2]
 cases hc
def St.laid (σ:St) (ts:List Nat) (ps:Array Tmp) (assign body:Code):ALoop :=
 { st := .ready,pending:=none,env:=ts.map (fun t=>(t,(σ.get t).copy)),n:=σ.n,params:=ps,assign:=assign,body:=body }
theorem a6O (σ:St) : ∀ (ts:List Nat) (t:Nat),a1T (ts.map (fun t=>(t,(σ.get t).copy))) t=(σ.get t).copy\/a1T (ts.map (fun t=>(t,(σ.get t).copy))) t = .undef
 | [],t => .inr rfl
 | s::r,t=>by
   simp only [List.map_cons,a1T];split
   ·rename_i h;subst h;exact .inl rfl
   exact a6O σ r t
theorem Rel.enterLoop {G:Gh} {σ:St} {a:Act} {w:World} (R:Rel G σ a w) (ts:List Nat) (ps:Array Tmp) (assign body:Code) (fn:FuncId) :
  ∃ G',Rel G' { σ with heap:=σ.heap++[.loop (σ.laid ts ps assign body)] } { a with defers:=[{ target := .collected w.heap.size,args := #[] }]++a.defers }
    ((w.alloc (.deferred (some []))).alloc (.loop { state := .ready,pending:=none,fn,tmps:=a.tmps,params:=ps,assign,body,defers:=w.heap.size })) /\
    G'.β (.o σ.heap.length)=w.heap.size+1 /\
    (∀ m,m<=G.nh->Ext m G w G' ((w.alloc (.deferred (some []))).alloc (.loop { state := .ready,pending:=none,fn,tmps:=a.tmps,params:=ps,assign,body,defers:=w.heap.size }))):=by
 let rec0:Loop:={ state := .ready,pending:=none,fn,tmps:=a.tmps,params:=ps,assign,body,defers:=w.heap.size };let w1:=(w.alloc (.deferred (some []))).alloc (.loop rec0);let G':Gh:={ ((G.own w.heap.size .df 0).own (w.heap.size+1) (.o G.nh) 0).at (.o G.nh) (w.heap.size+1) with nh:=G.nh+1 }
 have hsz:(w.alloc (.deferred (some []))).heap.size=w.heap.size+1:=by simp
 have hold : ∀ b,b<w.heap.size->w1.heap[b]?=w.heap[b]?:=fun b hb=>by
  rw [show w1=(w.alloc (.deferred (some []))).alloc (.loop rec0) from rfl,a0w (by omega),a0w hb]
 have hL:w1.heap[w.heap.size+1]?=some (.loop rec0):=by
  have:=heap_alloc_new (w:=w.alloc (.deferred (some []))) (o := .loop rec0)
  rwa [hsz] at this
 have hD:w1.heap[w.heap.size]?=some (.deferred (some [])):=by
  rw [show w1=(w.alloc (.deferred (some []))).alloc (.loop rec0) from rfl,a0w (by omega),heap_alloc_new]
 have hOold : ∀ b x f,G.O b=some (x,f)->G'.O b=some (x,f):=by
  intro b x f h;have:=(R.h.disj b x f h).1;simp [G',Gh.own,Gh.at,Nat.ne_of_lt this,show b≠w.heap.size+1 by omega,h]
 have hβold : ∀ i,i<G.nh->G'.β (.o i)=G.β (.o i):=by
  intro i hi;simp [G',Gh.own,Gh.at,Nat.ne_of_lt hi]
 have hpr:Pres G G' w w1 (fun _=>True) :=
  ⟨KLe.refl _,fun b x f _ h=>⟨hOold b x f h,hold b (R.h.disj b x f h).1⟩,hβold,Nat.le_succ _⟩
 have hkn : ∀ b j,w.heap.size<=b->G.K ⟨b,j,none⟩=none:=by
  intro b j hb;cases hK:G.K ⟨b,j,none⟩ with
  | none=>rfl
  | some v=>have:=World.block_lt_of_cell? w _ (R.h.kept _ _ hK);simp at this;omega
 have hslots : ∀ t,RepV G' w1 (.s t) (σ.get t) (a.tmps.getD t Go.undef):=fun t =>
  (R.slots t).pres R.h.sane hpr trivial (fun _ _ _=>by simp [G',Gh.own,Gh.at]) (fun _ _ _=>⟨by simp [G',Gh.own,Gh.at],fun _=>trivial⟩)
 have hnhl:σ.heap.length=G.nh:=R.h.nh;refine ⟨G',⟨⟨⟨fun b x f h => ?_⟩,?_,fun i ob hob => ?_,fun x v h=>a1K (a1K (R.h.kept x v h)),fun b x f h => ?_⟩,R.size,hslots,R.places,?_⟩,?_,?_⟩
 ·simp only [G',Gh.own,Gh.at] at h;split at h
  ·simp at h;rw [<-h.1];simp [Loc.root]
  split at h
  ·simp at h;rw [<-h.1];simp [Loc.root]
  exact R.h.sane.no b x f h
 ·simp [G',hnhl]
 ·rcases Nat.lt_or_ge i σ.heap.length with hi | hi
  ·simp only [zp7 hi] at hob;exact (R.h.objs i ob hob).pres R.h.sane (by omega) hpr trivial (fun _=>trivial)
  have hi':i=G.nh:=by
   have:=(zp2.1 hob).1;simp at this;omega
  subst hi';rw [<-hnhl] at hob;simp at hob;subst hob;refine ⟨fn,a.tmps,w.heap.size,by simp [G',Gh.own,Gh.at],?_,R.size,fun t => ?_,fun t => ?_⟩
  ·have:G'.β (.o G.nh)=w.heap.size+1:=by simp [G',Gh.at]
   rw [this];exact hL
  ·rcases a6O σ ts t with h | h
   ·simp only [St.laid,h];exact (hslots t).copy _
   simp only [St.laid,h];exact .undef _ _
  rcases a6O σ ts t with h | h
  ·simp only [St.laid,h];exact AV.copy_free _
  simp only [St.laid,h];rfl
 ·simp only [G',Gh.own,Gh.at] at h ⊢;split at h
  ·rename_i hb;subst hb;exact ⟨by simp,fun j _=>hkn _ _ (by omega)⟩
  split at h
  ·rename_i hb;subst hb;exact ⟨by simp;omega,fun j _=>hkn _ _ (by omega)⟩
  have:=R.h.disj b x f h;exact ⟨by simp;omega,this.2⟩
 ·refine ⟨?_,fun d hd => ?_⟩
  ·simp only [List.cons_append,List.nil_append,List.map_cons,List.nodup_cons];refine ⟨fun hm => ?_,R.df.1⟩;obtain ⟨x,hx,hxe⟩:=List.mem_map.1 hm;obtain ⟨r0,rfl,h2,h3⟩:=R.df.2 x hx;simp at hxe;have:=(R.h.disj _ _ _ h2).1;omega
  rcases List.mem_cons.1 hd with rfl | hd
  ·exact ⟨_,rfl,by simp [G',Gh.own,Gh.at],hD⟩
  obtain ⟨r0,h1,h2,h3⟩:=R.df.2 d hd;exact ⟨r0,h1,hOold _ _ _ h2,(hold _ (R.h.disj _ _ _ h2).1).trans h3⟩
 ·rw [hnhl];simp [G',Gh.at]
 intro m hm;exact ⟨KLe.refl _,fun x v h => .inl h,fun b hb h=>⟨hold b hb,by simp [G',Gh.own,Gh.at,Nat.ne_of_lt hb,show b≠w.heap.size+1 by omega,h]⟩,by simp;omega,fun i hi=>hβold i (by omega),rfl,rfl,fun a _=>(frozen?_alloc_new _ _ (fun _ _ _ e=>by cases e) a).trans (frozen?_alloc_new _ _ (fun _ _ _ e=>by cases e) a),rfl,Nat.le_refl _⟩
def a2R.behind (P:Program) (m:Nat) (Q:Exit->St->Prop) (σ:St):Option Code->Prop
 | none=>Q .normal σ
 | some c=>a2R P m c Q σ
theorem a2R.rangeFunc {P:Program} {m:Nat} {Q:Exit->St->Prop} {σ:St} {t:Nat} {ps:Array Tmp} {assign body:Code} {f:FuncId} {as bs:List AV} (ts:List Nat) (hg:σ.get t = .func f as bs) (hm:m<=σ.heap.length)
  {H':List Obj} {r:AV} (hin:a0s (σ.heap.length+1) (σ.heap++[.loop (σ.laid ts ps assign body)])=true) (hargs:a3L (σ.heap.length+1) (as++bs)=true)
  (_hfr:(as++bs).all AV.free=true) (hc:a0c P f (as++[.yield σ.heap.length]++bs) (σ.heap++[.loop (σ.laid ts ps assign body)]) r H')
  {st:LoopState} {pend:Option Code} (hst:st ≠ .busy) (hy:H'[σ.heap.length]?=some (.loop { σ.laid ts ps assign body with st:=st,pending:=pend }))
  (k:a2R.behind P m Q { σ with heap:=H'.set σ.heap.length (.loop { σ.laid ts ps assign body with st := .exhausted,pending:=pend }) } pend):a2R P m (.rangeFunc (.tmp t) ps assign body) Q σ:=by
 intro n G a w hm' R;refine wpIn_rangeFunc fun fn _ => ?_;obtain ⟨G1,R1,hβ,hE1⟩:=R.enterLoop ts ps assign body fn;obtain ⟨hcb,hrl,hri,hin',hHH,hcc⟩:=hc;have hrep:=R.slots t;rw [hg] at hrep;obtain ⟨va,vb,hx,ha,hb,h1,h2,hla,hlb⟩ : ∃ va vb:Array Value,a.eval (.tmp t) = .func (.func f) va vb/\va.size=as.length/\vb.size=bs.length /\
   (∀ (i:Nat) (hi:i<as.length),RepV G1 ((w.alloc (.deferred (some []))).alloc (.loop { state := .ready,pending:=none,fn,tmps:=a.tmps,params:=ps,assign,body,defers:=w.heap.size })) .no as[i] (va.getD i Go.undef)) /\
   (∀ (i:Nat) (hi:i<bs.length),RepV G1 ((w.alloc (.deferred (some []))).alloc (.loop { state := .ready,pending:=none,fn,tmps:=a.tmps,params:=ps,assign,body,defers:=w.heap.size })) .no bs[i] (vb.getD i Go.undef)) /\
   (∀ c∈as,c.isLocal=false) /\ ∀ c∈bs,c.isLocal=false:=by
  have hrep:=R1.slots t;simp only [St.get] at hrep;rw [show a1T σ.env t = .func f as bs from hg] at hrep;show ∃ va vb:Array Value,a.tmps.getD t Go.undef=_/\_;have e:({ a with defers:=[{ target := .collected w.heap.size,args := #[] }]++a.defers }:Act).tmps=a.tmps:=rfl
  rw [e] at hrep;generalize a.tmps.getD t Go.undef=v at hrep;cases hrep with | func _ _ _ _ va vb ha hb h1 h2 h3 h4=>exact ⟨va,vb,rfl,ha,hb,h1,h2,h3,h4⟩
 refine ⟨w.heap.size+1,[{ target := .collected w.heap.size,args := #[] }],((w.alloc (.deferred (some []))).alloc (.loop { state := .ready,pending:=none,fn,tmps:=a.tmps,params:=ps,assign,body,defers:=w.heap.size })),{ target := .fn (.func f) vb,args:=va ++ #[.func (.yield (w.heap.size+1)) #[] #[]] },((w.alloc (.deferred (some []))).alloc (.loop { state := .ready,pending:=none,fn,tmps:=a.tmps,params:=ps,assign,body,defers:=w.heap.size })),f,va ++ #[.func (.yield (w.heap.size+1)) #[] #[]]++vb,((w.alloc (.deferred (some []))).alloc (.loop { state := .ready,pending:=none,fn,tmps:=a.tmps,params:=ps,assign,body,defers:=w.heap.size })),
  run_enterLoop_outer _ _ _ _ _,?_,fun _ _=>trivial,?_,fun h=>by simp [Wd] at h,?_⟩
 ·have e : ∀ x,a.eval (.const x)=x:=fun _=>rfl;simp only [resolve,hx,Deferred.ofValue,Sem.run_bind,Sem.run_pure,Result.andThen_ok];simp [e]
 ·simp only [invoke];exact a5O hcb _ _
 have hyv:(va ++ #[Value.func (.yield (w.heap.size+1)) #[] #[]]).size=(as++[AV.yield σ.heap.length]).length /\ ∀ (i:Nat) (hi:i<(as++[AV.yield σ.heap.length]).length),
   RepV G1 ((w.alloc (.deferred (some []))).alloc (.loop { state := .ready,pending:=none,fn,tmps:=a.tmps,params:=ps,assign,body,defers:=w.heap.size })) .no (as++[AV.yield σ.heap.length])[i] ((va ++ #[Value.func (.yield (w.heap.size+1)) #[] #[]]).getD i Go.undef):=a4n ha (by rfl) h1 (fun i hi=>by
   have:i=0:=by simpa using hi
   subst this;have:=RepV.yield (G:=G1) (w:=(w.alloc (.deferred (some []))).alloc (.loop { state := .ready,pending:=none,fn,tmps:=a.tmps,params:=ps,assign,body,defers:=w.heap.size })) .no σ.heap.length (by rw [<-R1.h.nh];simp);rw [hβ] at this;exact this)
 obtain ⟨k3,k4⟩:=a4n hyv.1 hb hyv.2 h2;have RH:RelH G1 ((σ.heap++[.loop (σ.laid ts ps assign body)])++[]) ((w.alloc (.deferred (some []))).alloc (.loop { state := .ready,pending:=none,fn,tmps:=a.tmps,params:=ps,assign,body,defers:=w.heap.size })):=by rw [List.append_nil];exact R1.h
 have hlen1:(σ.heap++[Obj.loop (σ.laid ts ps assign body)]).length=σ.heap.length+1:=by simp
 have hRh:=RH.handed (by rw [hlen1];exact hin);have hsub:Sub G1 (G1.handed (σ.heap++[Obj.loop (σ.laid ts ps assign body)]).length) ((w.alloc (.deferred (some []))).alloc (.loop { state := .ready,pending:=none,fn,tmps:=a.tmps,params:=ps,assign,body,defers:=w.heap.size })) ((w.alloc (.deferred (some []))).alloc (.loop { state := .ready,pending:=none,fn,tmps:=a.tmps,params:=ps,assign,body,defers:=w.heap.size })) (fun ℓ=>ℓ = .no) (σ.heap++[Obj.loop (σ.laid ts ps assign body)]).length :=
  ⟨KLe.refl _,fun b ℓ f hl hO=>absurd (hl▸rfl) (R1.h.sane.no b ℓ f hO),fun _ _=>rfl,Nat.le_refl _⟩
 refine CallsIn.mono (hcc (n-1) (G1.handed (σ.heap++[Obj.loop (σ.laid ts ps assign body)]).length) ((w.alloc (.deferred (some []))).alloc (.loop { state := .ready,pending:=none,fn,tmps:=a.tmps,params:=ps,assign,body,defers:=w.heap.size })) _ k3 (fun i hi => ?_) hRh (fun b ℓ f hO => ?_)) ?_
 ·refine (k4 i hi).sub R1.h.sane hsub rfl ?_ ?_
  ·refine a0R ?_ i hi;rw [hlen1];have inbL_app : ∀ {k:Nat} {A B:List AV},a3L k (A++B)=(a3L k A&&a3L k B):=by
    intro k A B
    induction A with
    | nil=>simp [a3L]
    | cons c A ih=>simp [a3L,ih,Bool.and_assoc]
   rw [inbL_app] at hargs;simp at hargs;rw [inbL_app,inbL_app];simp [hargs.1,hargs.2,a3L,AV.inb]
  have : ∀ c∈(as++[AV.yield σ.heap.length]++bs),c.isLocal=false:=by
   intro c hc;simp at hc;rcases hc with hc | rfl | hc
   ·exact hla c hc
   ·rfl
   exact hlb c hc
  exact this _ (zp6 _)
 ·have:=(a2B hO).2;cases ℓ <;> simp [a1n] at this
  ·rename_i i;exact ⟨i,rfl⟩
  rename_i i j;exact ⟨i,rfl⟩
 rintro e w3 ⟨v,G3,rfl,hv,R3,hE3⟩;obtain ⟨R4,hext⟩:=R1.backO (H:=σ.heap++[.loop (σ.laid ts ps assign body)]) (rest:=[]) (d:=none) (by simp) (.inl rfl) hHH R3 hE3 hin' hv hrl hri (fun x e=>by cases e);rw [List.append_nil] at R4;have hyb:(G1.back G3 (σ.heap++[Obj.loop (σ.laid ts ps assign body)]).length H'.length 0 ([]:List Obj).length).β (.o σ.heap.length)=w.heap.size+1:=by
  rw [<-hβ];exact (hext (σ.heap.length+1) (by rw [<-R1.h.nh];simp)).β _ (Nat.lt_succ_self _)
 obtain ⟨rr,e1,e2,e3,e4,e5,e6,hset⟩:=R4.setLoop (i:=σ.heap.length) hy;have hyb':(G1.back G3 (σ.heap++[Obj.loop (σ.laid ts ps assign body)]).length H'.length ((none:Option Nat).getD 0) ([]:List Obj).length).β (.o σ.heap.length)=w.heap.size+1:=hyb;rw [hyb'] at e1 hset;obtain ⟨R5,hE5⟩:=hset .exhausted pend;have e3:rr.pending=pend:=e3;have e2:rr.state=st:=e2;have hrr:({ rr with state := .exhausted }:Loop)={ rr with state := .exhausted,pending:=pend }:=by rw [<-e3]
 have hend:=run_endLoop (P:=P) e1 (by rw [e2];exact hst);rw [hrr,e3] at hend;have hEE:Ext m G w _ (w3.putObj (w.heap.size+1) (.loop { rr with state := .exhausted,pending:=pend })) :=
  ((hE1 m hm').trans (hext m (by rw [<-R1.h.nh];simp;omega))).trans (hE5 m)
 have hnh:m<=(G1.back G3 (σ.heap++[Obj.loop (σ.laid ts ps assign body)]).length H'.length ((none:Option Nat).getD 0) ([]:List Obj).length).nh:=by
  simp only [Gh.back];have:=(zp2.1 hy).1;omega
 refine ⟨pend,_,hend,?_⟩;cases pend with
 | none=>exact ⟨_,_,R5,hEE,hnh,k⟩
 | some c=>exact wpIn_mono (k n _ _ _ hnh R5) (fun e a' w' hp=>hp.ext hEE)
theorem a0a {α β:Type} {o:Option α} {f:α->Option β} {r:β} (h:o.bind f=some r) : ∃ v,o=some v/\f v=some r:=by
 cases o with
 | none=>cases h
 | some v=>exact ⟨v,rfl,h⟩
theorem cT {α:Type} {c:Bool} {x y r:α} (e:c=true) (h:cond c x y=r):x=r:=by subst e;exact h
theorem cF {α:Type} {c:Bool} {x y r:α} (e:c=false) (h:cond c x y=r):y=r:=by subst e;exact h
theorem eL {α β γ:Type} {f:α->γ} {g:β->γ} {v:α} {r:γ} (h:Sum.elim f g (.inl v)=r):f v=r:=h
theorem eR {α β γ:Type} {f:α->γ} {g:β->γ} {v:β} {r:γ} (h:Sum.elim f g (.inr v)=r):g v=r:=h
theorem soI {α:Type} {x y:α} (h:some x=some y):x=y:=Option.some.inj h
structure Cod (τ:Type) where
 un:D->Option τ
 en:τ->D
 ok : ∀ x v,un x=some v->x=en v
 ko : ∀ v,un (en v)=some v
def cI (k:IntKind):Cod Int where
 un | .int k' n=>if k'=k then some n else none
    | _=>none
 en n := .int k n
 ok x v h:=by
  cases x <;> simp at h;obtain ⟨rfl,rfl⟩:=h;rfl
 ko v:=by simp
def cB:Cod Bool where
 un | .bool b=>some b
    | _=>none
 en b := .bool b
 ok x v h:=by cases x <;> simp at h;subst h;rfl
 ko v:=rfl
def cS:Cod ByteArray where
 un | .str b=>some b
    | _=>none
 en b := .str b
 ok x v h:=by cases x <;> simp at h;subst h;rfl
 ko v:=rfl
def cL (k:Nat):Cod (List D) where
 un | .list k' l=>if k'=k then some l else none
    | _=>none
 en l := .list k l
 ok x v h:=by
  cases x <;> simp at h;obtain ⟨rfl,rfl⟩:=h;rfl
 ko v:=by simp
structure CodL (τ:Type) where
 un:List D->Option τ
 en:τ->List D
 ok : ∀ x v,un x=some v->x=en v
 ko : ∀ v,un (en v)=some v
def l1 {τ:Type} (c:Cod τ):CodL τ where
 un | [x]=>c.un x
    | _=>none
 en v:=[c.en v]
 ok x v h:=by
  match x,h with
  | [y],h=>rw [c.ok y v h]
 ko v:=c.ko v
def lc {τ ρ:Type} (c:Cod τ) (d:CodL ρ):CodL (τ×ρ) where
 un | x::r=>(c.un x).bind fun a=>(d.un r).map fun b=>(a,b)
    | []=>none
 en v:=c.en v.1::d.en v.2
 ok x v h:=by
  match x,h with
  | y::r,h =>
    obtain ⟨a,h1,h⟩:=a0a h;simp only [Option.map_eq_some_iff] at h;obtain ⟨b,h2,rfl⟩:=h;rw [c.ok y a h1,d.ok r b h2]
 ko v:=by simp [c.ko,d.ko]
def cG {τ:Type} (d:CodL τ):Cod τ where
 un | .agg l=>d.un l
    | _=>none
 en v := .agg (d.en v)
 ok x v h:=by
  cases x <;> simp at h;rw [d.ok _ v h]
 ko v:=d.ko v
def cA:Cod (List D) where
 un | .agg l=>some l
    | _=>none
 en l := .agg l
 ok x v h:=by
  cases x <;> simp at h;subst h;rfl
 ko v:=rfl
theorem onN {A:Ar} (hA:A=Ar.std) {l:List D} (h:A.ones l=true):l.all D.isOne=true:=by subst hA;exact h
def ga (A:Ar) (l:List D) (p n:Int):Option (List D):=bif A.zle (A.zadd p n) (A.len l) then bif A.ones (A.sub l p (A.zadd p n)) then some (A.sub l p (A.zadd p n)) else none else none
theorem gaI {A:Ar} {l x:List D} {p n:Int} (h:ga A l p n=some x):A.zle (A.zadd p n) (A.len l)=true/\A.sub l p (A.zadd p n)=x/\A.ones x=true:=by
 unfold ga at h;cases h1:A.zle (A.zadd p n) (A.len l) <;> cases h2:A.ones (A.sub l p (A.zadd p n)) <;> simp [h1,h2] at h;subst h;exact ⟨rfl,rfl,h2⟩
def gc {τ:Type} (A:Ar) (c:Cod τ) (l:List D) (i:Nat):Option τ:=(A.lget l i).bind c.un
theorem gcI {τ:Type} {A:Ar} {c:Cod τ} {l:List D} {i:Nat} {v:τ} (h:gc A c l i=some v):A.lget l i=some (c.en v):=by
 obtain ⟨x,h1,h2⟩:=a0a h;rw [h1,c.ok x v h2]
@[irreducible] def fuel:Nat:=1000000
theorem b4h:fuel=1000000:=by unfold fuel;rfl
theorem tf (b:Bool):b=true\/b=false:=by cases b <;> simp
theorem lb {a b:Nat} (h:Nat.ble a b=true):a<=b:=Nat.le_of_ble_eq_true h
def jn {α ρ:Type} (k:α->Option ρ) (f:(α->Option ρ)->Option ρ):Option ρ:=f k
theorem jnI {α ρ:Type} {k:α->Option ρ} {f:(α->Option ρ)->Option ρ} {r:ρ} (h:jn k f=some r) : ∃ K:α->Option ρ,(∀ v,K v=some r->k v=some r)/\f K=some r:=⟨k,fun _ h=>h,h⟩
theorem a0z {α ρ:Type} {o:Option α} {f:α->Option ρ} {r:ρ} (h:o.bind f=some r) : ∃ x,o=some x /\ ∃ K:α->Option ρ,(∀ y,K y=some r->f y=some r)/\K x=some r:=by
 obtain ⟨x,h1,h2⟩:=a0a h;exact ⟨x,h1,f,fun _ h=>h,h2⟩
open Classical in
noncomputable def both {ρ:Type} (a b:Option ρ):Option ρ:=a.bind fun x=>b.bind fun y=>if x=y then some x else none
theorem c0N {ρ:Type} {a b:Option ρ} {r:ρ} (h:both a b=some r):a=some r/\b=some r:=by
 obtain ⟨x,h1,h⟩:=a0a h;obtain ⟨y,h2,h⟩:=a0a h;split at h
 ·rename_i e;subst e;rw [soI h] at h1 h2;exact ⟨h1,h2⟩
 cases h
theorem a9A {ρ:Type} (x:ρ):both (some x) (some x)=some x:=by simp [both]
theorem ixF {A:Ar} (hA:A=Ar.std) {n j:Nat} {i:Int} (h:A.zeq i j=true) (hj:j<n):A.zle 0 i=true/\A.zlt i (Int.ofNat n)=true/\A.nat i=j:=by
 subst hA;have:i=j:=by simpa [Ar.std] using h
 subst this;refine ⟨?_,?_,?_⟩ <;> simp [Ar.std] <;> omega
def gt {τ:Type} (A:Ar) (c:Cod τ) (l:List D) (i:Int):Option τ:=bif A.zle 0 i then (A.lget l (A.nat i)).bind c.un else none
theorem gtI {τ:Type} {A:Ar} {c:Cod τ} {l:List D} {i:Int} {v:τ} (h:gt A c l i=some v):A.zle 0 i=true/\A.lget l (A.nat i)=some (c.en v):=by
 unfold gt at h;cases h0:A.zle 0 i with
 | false=>rw [h0] at h;cases h
 | true =>
   rw [h0] at h;obtain ⟨x,h1,h2⟩:=a0a (cT rfl h);exact ⟨rfl,by rw [h1,c.ok x v h2]⟩
def sl (A:Ar) (l:List D) (lo hi:Int):Option (List D):=bif A.zle 0 lo then bif A.zle lo hi then bif A.zle hi (A.len l) then some (A.sub l lo hi) else none else none else none
theorem slI {A:Ar} {l y:List D} {lo hi:Int} (h:sl A l lo hi=some y):A.zle 0 lo=true/\A.zle lo hi=true/\A.zle hi (A.len l)=true/\A.sub l lo hi=y:=by
 unfold sl at h;cases h0:A.zle 0 lo <;> cases h1:A.zle lo hi <;> cases h2:A.zle hi (A.len l) <;> simp [h0,h1,h2] at h;exact ⟨rfl,rfl,rfl,h⟩
def ap (A:Ar) (l m:List D):Option (List D):=bif A.fits (A.zadd (A.len l) (A.len m)) then some (A.app l m) else none
theorem apI {A:Ar} {l m y:List D} (h:ap A l m=some y):A.fits (A.zadd (A.len l) (A.len m))=true/\A.app l m=y:=by
 unfold ap at h;cases h0:A.fits (A.zadd (A.len l) (A.len m)) <;> simp [h0] at h;exact ⟨rfl,h⟩
def ck (b:Bool):Option Unit:=bif b then some () else none
theorem ckI {b:Bool} {u:Unit} (h:ck b=some u):b=true:=by cases b <;> first | rfl | cases h
def nk (b:Bool):Option Unit:=bif b then none else some ()
theorem nkI {b:Bool} {u:Unit} (h:nk b=some u):b=false:=by cases b <;> first | rfl | cases h
def lk {τ:Type} (A:Ar) (c:Cod τ) (es:List (D×D)) (k:D):Option (Option τ):=(A.mget es k).elim (some none) (fun d=>(c.un d).map some)
theorem lkN {τ:Type} {A:Ar} {c:Cod τ} {es:List (D×D)} {k:D} (h:lk A c es k=some none):A.mget es k=none:=by
 unfold lk at h;cases hm:A.mget es k with
 | none=>rfl
 | some d =>
   rw [hm] at h;simp at h
theorem lkS {τ:Type} {A:Ar} {c:Cod τ} {es:List (D×D)} {k:D} {v:τ} (h:lk A c es k=some (some v)):A.mget es k=some (c.en v):=by
 unfold lk at h;cases hm:A.mget es k with
 | none=>rw [hm] at h;simp at h
 | some d =>
   rw [hm] at h;simp at h;rw [c.ok d v h]
def fz (A:Ar) (l:List D) (lo n:Int):Option (List D):=bif A.zle (A.zadd lo n) (A.len l) then some (A.sub l lo (A.zadd lo n)) else none
theorem fzI {A:Ar} (hA:A=Ar.std) {l l':List D} {lo n:Int} (h:fz A l lo n=some l'):lo+n<=l.length/\Ar.std.sub l lo (lo+n)=l':=by
 subst hA;unfold fz at h;cases h0:Ar.std.zle (Ar.std.zadd lo n) (Ar.std.len l) <;> simp [h0] at h;refine ⟨by simpa [Ar.std] using h0,h⟩
theorem neL {A:Ar} (hA:A=Ar.std) {l:List D} (h:A.zlt 0 (A.len l)=true):l≠[]:=by
 subst hA;rintro rfl;simp [Ar.std] at h
theorem c5n {A:Ar} (hA:A=Ar.std) {l:List D}:(l.length:Int)=A.len l:=by subst hA;rfl
def AV.soft:AV->AV
 | .own k l => .d (.list k l)
 | .lim k l => .d (.list k l)
 | .tail k l => .d (.list k l)
 | v=>v
def AV.loose:AV->AV
 | .own k l => .tail k l
 | v=>v
def b2s (sf:List Nat):List (Nat×AV)->List (Nat×AV)
 | []=>[]
 | (t,v)::r=>(t,if sf.contains t then v.soft else if sf.contains (t+1000000) then v.loose else v)::b2s sf r
theorem a5w (sf:List Nat) : ∀ (e:List (Nat×AV)) (t:Nat),a1T (b2s sf e) t=if sf.contains t then (a1T e t).soft else if sf.contains (t+1000000) then (a1T e t).loose else a1T e t
 | [],t=>by simp only [b2s,a1T];split <;> (try split) <;> rfl
 | (s,v)::r,t=>by
   simp only [b2s,a1T];by_cases h:s=t
   ·subst h;simp
   simp only [if_neg h];exact a5w sf r t
theorem Rel.soft {G:Gh} {σ:St} {a:Act} {w:World} (R:Rel G σ a w) (sf:List Nat):Rel G { σ with env:=b2s sf σ.env } a w:=by
 refine ⟨R.h,R.size,fun t => ?_,fun t r off ht => ?_,R.df⟩
 ·have:=R.slots t;simp only [St.get,a5w] at this ⊢;split
  ·generalize a1T σ.env t=c at this;cases c <;> first | exact this | skip
   ·cases this with | own _ _ _ _ h _=>exact .d _ _ _ h
   ·cases this with | lim _ _ _ _ h _=>exact .d _ _ _ h
   cases this with | tail _ _ _ _ h _=>exact .d _ _ _ h
  split
  ·generalize a1T σ.env t=c at this;cases c <;> first | exact this | skip
   exact (a2O (z:=false)).2 ((a2O (z:=true)).1 this |>.imp id a4E.weak)
  exact this
 simp only [St.get,a5w] at ht ⊢;have h1:a1T σ.env t = .place r off:=by
  split at ht
  ·generalize a1T σ.env t=c at ht;cases c <;> first | exact ht | (simp [AV.soft] at ht)
  split at ht
  ·generalize a1T σ.env t=c at ht;cases c <;> first | exact ht | (simp [AV.loose] at ht)
  exact ht
 obtain ⟨cs,h2⟩:=R.places t r off h1;simp only [St.get] at h2;rw [h2];exact ⟨cs,by split <;> (try split) <;> rfl⟩
def St.fitS (σ:St) (ts sf:List Nat) (k:Nat):St:={ σ with env:=b2s sf (a9w σ.env ts),heap:=σ.heap.take k }
theorem Rel.fitS {G:Gh} {σ:St} {a:Act} {w:World} (R:Rel G σ a w) {ts:List Nat} (sf:List Nat) {k:Nat} (h:σ.fits ts k=true):Rel { G with nh:=k } (σ.fitS ts sf k) a w :=
 (R.fit h).soft sf
def AExit.onN (ts sf:List Nat) (k:Nat) (R:St->Prop) (Q:Exit->St->Prop):Exit->St->Prop
 | .normal,σ=>σ.fits ts k=true/\R (σ.fitS ts sf k)
 | e,σ=>Q e σ
def AExit.onX (j:Nat) (ts sf:List Nat) (k:Nat) (R:St->Prop) (Q:Exit->St->Prop):Exit->St->Prop
 | .exit i,σ=>if i=j then σ.fits ts k=true/\R (σ.fitS ts sf k) else Q (.exit i) σ
 | e,σ=>Q e σ
section
variable {P:Program} {m:Nat} {Q:Exit->St->Prop} {σ:St} {c:Code} {R:St->Prop} {ts sf:List Nat} {k:Nat}
theorem AWp.fitR (ts sf:List Nat) (k:Nat) (hm:m<=k) (hf:σ.fits ts k=true) (h:AWp P m c Q (σ.fitS ts sf k)):AWp P m c Q σ:=by
 intro r n G a w hm' R;refine wpIn_mono (h r n _ a w hm (R.fitS sf hf)) ?_;rintro e a' w' ⟨σ',G',R',hE,hm'',hQ⟩;exact ⟨σ',G',R',⟨hE.K,hE.new,hE.others,hE.size,hE.β,hE.io⟩,hm'',hQ⟩
theorem AWp.cutN (ts sf:List Nat) (k:Nat) (hm:m<=k) (R:St->Prop) (h:AWp P m c (AExit.onN ts sf k R Q) σ) (h2 : ∀ τ,R τ->Q .normal τ):AWp P m c Q σ:=by
 intro r n G a w hm' R0;refine wpIn_mono (h r n G a w hm' R0) ?_;rintro e a' w' ⟨σ',G',R',hE,hm'',hQ⟩;cases e with
 | normal=>exact ⟨_,_,R'.fitS sf hQ.1,hE.nh k,hm,h2 _ hQ.2⟩
 | _=>exact ⟨σ',G',R',hE,hm'',hQ⟩
theorem AWp.cutX (j:Nat) (ts sf:List Nat) (k:Nat) (hm:m<=k) (R:St->Prop) (h:AWp P m c (AExit.onX j ts sf k R Q) σ) (h2 : ∀ τ,R τ->Q (.exit j) τ):AWp P m c Q σ:=by
 intro r n G a w hm' R0;refine wpIn_mono (h r n G a w hm' R0) ?_;rintro e a' w' ⟨σ',G',R',hE,hm'',hQ⟩;cases e with
 | exit i =>
   simp only [AExit.onX] at hQ;split at hQ
   ·rename_i hi;subst hi;exact ⟨_,_,R'.fitS sf hQ.1,hE.nh k,hm,h2 _ hQ.2⟩
   exact ⟨σ',G',R',hE,hm'',hQ⟩
 | _=>exact ⟨σ',G',R',hE,hm'',hQ⟩
theorem oNi (h:σ.fits ts k=true/\R (σ.fitS ts sf k)):AExit.onN ts sf k R Q .normal σ:=h
theorem oNr (h:Q .ret σ):AExit.onN ts sf k R Q .ret σ:=h
theorem oxI {j:Nat} (h:σ.fits ts k=true/\R (σ.fitS ts sf k)):AExit.onX j ts sf k R Q (.exit j) σ:=by simp only [AExit.onX,if_true];exact h
theorem oxR {j:Nat} (h:Q .ret σ):AExit.onX j ts sf k R Q .ret σ:=h
end
section
variable {S X:Type}
def itN (step:S->Option (S⊕X)):Nat->S->Option X
 | 0,_=>none
 | n+1,s=>(step s).bind (Sum.elim (fun s'=>itN step n s') some)
theorem b4i {step:S->Option (S⊕X)} : ∀ {n m:Nat} {s:S} {x:X},n<=m->itN step n s=some x->itN step m s=some x
 | 0,_,_,_,_,h=>by cases h
 | n+1,0,_,_,hn,_=>by omega
 | n+1,m+1,s,x,hn,h=>by
   simp only [itN] at h ⊢;obtain ⟨e,he,h⟩:=a0a h;rw [he];cases e with
   | inl s'=>exact b4i (n:=n) (by omega) (eL h)
   | inr y=>exact h
open Classical in
noncomputable def iter (step:S->Option (S⊕X)) (s:S):Option X:=if h : ∃ n x,itN step n s=some x then itN step h.choose s else none
theorem b0B {step:S->Option (S⊕X)} {n:Nat} {s:S} {x:X} (h:itN step n s=some x):iter step s=some x:=by
 have hex : ∃ n x,itN step n s=some x:=⟨n,x,h⟩;unfold iter;rw [dif_pos hex];obtain ⟨y,hy⟩:=hex.choose_spec;rw [hy];have h1:=b4i (Nat.le_max_left n hex.choose) h;have h2:=b4i (Nat.le_max_right n hex.choose) hy;rw [h1] at h2;exact h2.symm
theorem a8q {step:S->Option (S⊕X)} {s:S} {x:X} (h:iter step s=some x) : ∃ n,itN step n s=some x:=by
 unfold iter at h;split at h
 ·exact ⟨_,h⟩
 cases h
theorem a4o {step:S->Option (S⊕X)} {s s':S} (h:step s=some (.inl s')):iter step s=iter step s':=by
 have key : ∀ x,iter step s=some x↔iter step s'=some x:=by
  intro x;constructor
  ·intro hx;obtain ⟨n,hn⟩:=a8q hx;cases n with
   | zero=>cases hn
   | succ n=>simp only [itN,h,Option.bind_some,Sum.elim_inl] at hn;exact b0B hn
  intro hx;obtain ⟨n,hn⟩:=a8q hx;exact b0B (n:=n+1) (by simp only [itN,h,Option.bind_some,Sum.elim_inl];exact hn)
 cases e:iter step s with
 | some x=>exact ((key x).1 e).symm
 | none =>
   cases e':iter step s' with
   | none=>rfl
   | some x=>rw [(key x).2 e'] at e;cases e
theorem a1X {step:S->Option (S⊕X)} {s:S} {x:X} (h:step s=some (.inr x)):iter step s=some x :=
 b0B (n:=1) (by simp only [itN,h,Option.bind_some,Sum.elim_inr])
theorem exL {e:S⊕X} {x x':X} {p:Prop} (he:some (Sum.inr x')=some e) (hq:x'=x->p) : ∃ x'',e = .inr x''/\(x''=x->p):=⟨x',(soI he).symm,hq⟩
variable {P:Program} {m:Nat} {Q:Exit->St->Prop} {σ:St} {c:Code}
theorem AWp.iter {step:S->Option (S⊕X)} {s0:S} {x:X} (hx:iter step s0=some x) (ts sf:List Nat) (k:Nat) (hm:m<=k) (F:S->St) (hf:σ.fits ts k=true/\σ.fitS ts sf k=F s0)
  (h : ∀ s e,step s=some e->AWp P m c (AExit.then (fun σ' => ∃ s',e = .inl s'/\σ'.fits ts k=true/\σ'.fitS ts sf k=F s') (fun ex σ' => ∃ x',e = .inr x'/\(x'=x->Q ex σ'))) (F s)):AWp P m (.loop c) Q σ:=by
 obtain ⟨n,hn⟩:=a8q hx;refine AWp.fitR ts sf k hm hf.1 ?_;rw [hf.2];refine AWp.loop (ι:={ i:S×Nat // itN step i.2 i.1=some x }) (fun i=>i.1.2) (fun i=>F i.1.1) ⟨(s0,n),hn⟩ ?_;rintro ⟨⟨s,n⟩,hi⟩;cases n with
 | zero=>cases hi
 | succ n =>
   simp only [itN] at hi;obtain ⟨e,he,hi⟩:=a0a hi;intro r n' G a w hm' R;refine wpIn_mono (h s e he r n' G a w hm' R) ?_;rintro ex a' w' ⟨σ',G',R',hE,hm'',hq⟩;cases ex with
   | normal =>
     obtain ⟨s',rfl,h1,h2⟩:=hq;exact ⟨_,_,R'.fitS sf h1,hE.nh k,hm,⟨(s',n),hi⟩,Nat.lt_succ_self _,h2⟩
   | _=>obtain ⟨x',rfl,h1⟩:=hq;exact ⟨σ',G',R',hE,hm'',h1 (soI hi)⟩
end
section
variable {P:Program} {T:a0m} {m:Nat} {Q:Exit->St->Prop} {K:St->Prop} {σ σ':St} {ops:Array Oper} {id:Nat} {c:Code} {A:Ar}
theorem nT (h:K σ):AExit.then K Q .normal σ:=h
theorem nB (h:Q .normal σ):AExit.block id Q .normal σ:=h
theorem xT {j:Nat} (h:Q (.exit j) σ):AExit.then K Q (.exit j) σ:=h
theorem xB (h:Q .normal σ):AExit.block id Q (.exit id) σ:=by simp only [AExit.block,if_true];exact h
theorem rT (h:Q .ret σ):AExit.then K Q .ret σ:=h
theorem rB (h:Q .ret σ):AExit.block id Q .ret σ:=h
theorem AWp.rg (hT:TOk P T) (hA:A=Ar.std) (an:Ann) (h:a9v A T an ops.toList ops.toList σ = .done σ') (hm:m<=σ.heap.length) (k:Q .normal σ'):AWp P m (.region id ops false) Q σ :=
 AWp.reg1 an hT (fun A' hA'=>by subst hA';subst hA;exact h) hm k
theorem AWp.rd (hT:TOk P T) (hA:A=Ar.std) (an:Ann) (hmix:P.follows .mixedOrders=true) {xs:List Rec} (h:a9z A T an ops.toList ops.toList σ [] = .done σ' xs) (hok:a2J ops.toList (xs.map Rec.foot)=true) (hm:m<=σ.heap.length) (k:Q .normal σ'):AWp P m (.region id ops true) Q σ :=
 AWp.reg1D an hT hmix (fun A' hA'=>by subst hA';subst hA;exact h) hok hm k
variable {l rest:List Oper} {f:FuncId} {args:List AV} {o:Oper} {σ1:St} {H Hr H':List Obj} {r:AV} {d:Nat} {xs xs1:List Rec}
theorem a2u.cc (hT:TOk P T) (hA:A=Ar.std) (an:Ann) (h:a9v A T an ops.toList l σ = .call f args o rest σ1)
  (hm:m<=σ.heap.length) (hc:a0c P f args H r H') (hH:σ1.heap=H++Hr) (hr:Hr=[]\/H'.length=H.length) (hin:a0s H.length H=true) (hargs:a3L H.length args=true) (hd:o.dst=some d) (hlt:d<σ1.n) (hb:(σ1.get d).isBox=false)
  (hfr:args.all AV.free=true) (k:a2u P m ops rest Q { σ1 with env:=a3d σ1.env d r,heap:=H'++Hr }):a2u P m ops l Q σ :=
 a2u.stepCall hT (an:=an) (fun A' hA'=>by subst hA';subst hA;exact h) hm hH hr hin hargs hd hlt hb hfr hc k
theorem a2u.cd (hT:TOk P T) (hA:A=Ar.std) (an:Ann) (h:a9v A T an ops.toList l σ = .done σ') (hm:m<=σ.heap.length) (hq:Q .normal σ'):a2u P m ops l Q σ :=
 a2u.done hT (an:=an) (fun A' hA'=>by subst hA';subst hA;exact h) hm hq
theorem a1h.cl (hT:TOk P T) (hA:A=Ar.std) (an:Ann) (hl:l=ops.toList.drop xs.length) (h:a9z A T an ops.toList l σ xs = .call f args o rest σ1 xs1)
  (hc:a0c P f args H r H') (hH:σ1.heap=H++Hr) (hr:H'.length=H.length) (hin:a0s H.length H=true) (hargs:a3L H.length args=true) (hd:o.dst=some d) (hlt:d<σ1.n) (hb:(σ1.get d).isBox=false) (hfr:args.all AV.free=true)
  (k:a1h P m ops rest (xs1++[{ sets:=[(d,r)],heap:=none,rd:=a0q ops.toList o,hr:=false,ho:=List.range H.length,low:=H' }]) K (σ1.upd [(d,r)] (some (H'++Hr)))):a1h P m ops l xs K σ :=
 a1h.stepCallL hT (an:=an) hl (fun A' hA'=>by subst hA';subst hA;exact h) hH hr hin hargs hd hlt hb hfr hc k
theorem a1h.c0 (hT:TOk P T) (hA:A=Ar.std) (an:Ann) (hl:l=ops.toList.drop xs.length) (h:a9z A T an ops.toList l σ xs = .call f args o rest σ1 xs1)
  (hc:a0c P f args [] r []) (hargs:a3L 0 args=true) (hd:o.dst=some d) (hlt:d<σ1.n) (hb:(σ1.get d).isBox=false) (hfr:args.all AV.free=true)
  (k:a1h P m ops rest (xs1++[{ sets:=[(d,r)],heap:=none,rd:=a0q ops.toList o,hr:=false,ho:=[],low:=[] }]) K (σ1.upd [(d,r)] none)):a1h P m ops l xs K σ :=
 a1h.stepCall hT (an:=an) hl (fun A' hA'=>by subst hA';subst hA;exact h) hargs hd hlt hb hfr hc k
theorem a1h.cy (hT:TOk P T) (hA:A=Ar.std) (an:Ann) {y:Nat} (hl:l=ops.toList.drop xs.length) (h:a9z A T an ops.toList l σ xs = .yield y args o rest σ1 xs1)
  (hc:b0y P y args H r H') (hH:σ1.heap=H++Hr) (hr:Hr=[]\/H'.length=H.length) (hin:a0s H.length H=true) (hargs:a3L H.length args=true) (hd:o.dst=some d) (hlt:d<σ1.n) (hb:(σ1.get d).isBox=false) (hfr:args.all AV.free=true)
  (k:a1h P m ops rest (xs1++[{ sets:=[(d,r)],heap:=some (H'++Hr),rd:=a0q ops.toList o,hr:=true,ho:=[],low:=[] }]) K (σ1.upd [(d,r)] (some (H'++Hr)))):a1h P m ops l xs K σ :=
 a1h.stepY hT (an:=an) hl (fun A' hA'=>by subst hA';subst hA;exact h) hH hr hin hargs hd hlt hb hfr hc k
theorem a1h.cd (hT:TOk P T) (hA:A=Ar.std) (an:Ann) {xs':List Rec} (hl:l=ops.toList.drop xs.length) (h:a9z A T an ops.toList l σ xs = .done σ' xs') (hok:a2J ops.toList (xs'.map Rec.foot)=true) (hq:K σ'):a1h P m ops l xs K σ :=
 a1h.done hT (an:=an) hl (fun A' hA'=>by subst hA';subst hA;exact h) hok hq
theorem AWp.cdT {t:Nat} {x y:Code} {b:Bool} (hc:σ.get t = .d (.bool b)) (hb:b=true) (h:AWp P m x Q σ):AWp P m (.cond (.tmp t) x y) Q σ:=by
 subst hb;exact AWp.cond (b:=true) hc h
theorem AWp.cdF {t:Nat} {x y:Code} {b:Bool} (hc:σ.get t = .d (.bool b)) (hb:b=false) (h:AWp P m y Q σ):AWp P m (.cond (.tmp t) x y) Q σ:=by
 subst hb;exact AWp.cond (b:=false) hc h
theorem bN (h:Q .normal σ):a2R.behind P m Q σ none:=h
def cAt:Code->List Nat->Code
 | c,[]=>c
 | .seq a _,0::r=>cAt a r
 | .seq _ b,_::r=>cAt b r
 | .cond _ a _,0::r=>cAt a r
 | .cond _ _ b,_::r=>cAt b r
 | .block _ b,_::r=>cAt b r
 | .loop b,_::r=>cAt b r
 | .scope b,_::r=>cAt b r
 | .rangeFunc _ _ a _,0::r=>cAt a r
 | .rangeFunc _ _ _ b,_::r=>cAt b r
 | c,_=>c
end
variable {P:Program} {T:a0m} {A:Ar} {m:Nat} {ops:Array Oper} {σ σ1:St} {o:Oper} {i:Nat} {K:St->Prop} {l rest:List Oper} {xs xs1:List Rec}
end Go.Am
namespace Go.Am
open Go
variable {P:Program} {m:Nat} {Q:Exit->St->Prop} {σ:St} {c:Code}
theorem RelH.freezeP {G:Gh} {H:List Obj} {w:World} {c:Loc} (R:RelH G H w) {i k:Nat} {lo n:Int} {l:List D} {v:Value} (hrep:RepV G w c (.mref i k lo n) v) (hi:H[i]?=some (.arr k l)) (hfit:lo+n<=l.length) :
  ∃ G',RelH G' (H.set i .dead) w/\RepD G'.K (.list k (Ar.std.sub l lo (lo+n))) v/\(∀ m,Ext m G w G' w)/\Pres G G' w w (fun x=>x ≠ .o i)/\G'.β=G.β:=by
 cases hrep with | mref _ _ _ _ _ b off cap hnh hlo hn hcap hbo =>
 obtain ⟨vs,e,hO,hw,hu,hsz,h1,hh⟩:=R.objs i _ hi;have hil:i<H.length:=(zp2.1 hi).1;have hfl:=a0e hu;let B:=G.β (.o i);let G':Gh:={ G with K:=fun x=>if x.block=B/\x.spot=none/\x.off<(D.flat l).length then some (vs.getD x.off Go.undef) else G.K x,O:=fun x=>if x=B then none else G.O x }
 have hdisj:=R.disj _ _ _ hO;have hKle:KLe G.K G'.K:=by
  intro x v h;simp only [G'];rw [if_neg];exact h;rintro ⟨hb,hsp,_⟩;obtain ⟨xb,xo,xs⟩:=x;simp at hb hsp;subst hb hsp;rw [hdisj.2 xo (Nat.zero_le _)] at h;cases h
 have hOold : ∀ b' x f',x ≠ .o i->G.O b'=some (x,f')->G'.O b'=some (x,f'):=by
  intro b' x f' hx h;have:b'≠B:=by rintro rfl;rw [show G.O B=_ from hO] at h;simp at h;exact hx h.1.symm
  simp only [G'];rw [if_neg this];exact h
 have hpr:Pres G G' w w (fun x=>x ≠ .o i) :=
  ⟨hKle,fun b' x f' hx h=>⟨hOold b' x f' hx h,rfl⟩,fun _ _=>rfl,Nat.le_refl _⟩
 have hkept : ∀ x v,G'.K x=some v->w.cell? x=some v:=by
  intro x v h;simp only [G'] at h;split at h
  ·rename_i hc;obtain ⟨xb,xo,xs⟩:=x;obtain ⟨h1',h2',h3'⟩:=hc;simp at h1' h2' h3' h;subst h1' h2';rw [a1m hw (by omega)];simpa using h
  exact R.kept x v h
 obtain ⟨LO,rfl⟩:=zp9 hlo;obtain ⟨N,rfl⟩:=zp9 hn;have hsubl:Ar.std.sub l LO (LO+N)=(l.drop LO).take N:=by
  simp only [Ar.std];congr 1
  all_goals omega
 have hlist':RepD G'.K (.list k ((l.drop LO).take N)) (.slice (some ⟨b,off,none⟩) N cap):=by
  by_cases hN:N=0
  ·subst hN;simp only [List.take_zero];exact RepD.empty _ _ _ _ _
  obtain ⟨rfl,rfl⟩:=hbo (by omega);simp only [Int.toNat_natCast];have hus:=hu.sub LO N;have hln:((l.drop LO).take N).length=N:=by simp;omega
  have hfe:D.flat ((l.drop LO).take N)=((D.flat l).drop (LO*k)).take (N*k):=by
   rw [a4T (fun x hx=>hu x (List.mem_of_mem_drop hx)),a4S hu]
  have hflN:=a0e hus;have hmul:LO*k+N*k<=l.length*k:=by rw [<-Nat.add_mul];exact Nat.mul_le_mul_right _ (by omega)
  have hgetj : ∀ (j:Nat) (hj:j<(D.flat ((l.drop LO).take N)).length),(D.flat ((l.drop LO).take N))[j]=(D.flat l)[LO*k+j]'(by rw [hflN,hln] at hj;omega):=by
   intro j hj;simp only [hfe,List.getElem_take,List.getElem_drop]
  have:=RepD.list (K:=G'.K) k ((l.drop LO).take N) (G.β (.o i)) (LO*k) cap (fun j=>vs.getD (LO*k+j) Go.undef) hus (by rw [hln];simpa using hcap)
   (fun j hj=>by
    rw [hflN,hln] at hj;have hjj:LO*k+j<(D.flat l).length:=by omega
    simp [G',B,hjj])
   (fun j hj=>by rw [hflN,hln] at hj;exact h1 _ (by omega))
   (fun j hj=>by
    rw [hgetj j hj];rw [hflN,hln] at hj;exact (hh _ (by omega)).mono hKle)
  rwa [hln] at this
 refine ⟨G',⟨⟨fun b' x f' h => ?_⟩,by simpa [G'] using R.nh,fun i' ob hob => ?_,hkept,fun b' x f' h => ?_⟩,by rw [hsubl];exact hlist',fun m=>⟨hKle,fun x v h => ?_,fun b' hb h=>⟨rfl,?_⟩,Nat.le_refl _,fun _ _=>rfl,rfl,rfl,fun _ _=>rfl,rfl,Nat.le_refl _⟩,hpr,rfl⟩
 ·simp only [G'] at h;split at h
  ·cases h
  exact R.sane.no b' x f' h
 ·by_cases hii:i=i'
  ·subst hii;simp [List.getElem?_set_self hil] at hob;subst hob;trivial
  rw [List.getElem?_set_ne hii] at hob;exact (R.objs i' ob hob).pres R.sane (by rw [<-R.nh];exact (zp2.1 hob).1) hpr (by simp;exact fun e=>hii e.symm) (by simp)
 ·simp only [G'] at h ⊢;split at h
  ·cases h
  rename_i hne;refine ⟨(R.disj b' x f' h).1,fun j hj => ?_⟩;rw [if_neg (by intro hc;exact hne hc.1)];exact (R.disj b' x f' h).2 j hj
 ·simp only [G'] at h;split at h
  ·rename_i hc;exact .inr (.inl ⟨_,by rw [hc.1];exact hO⟩)
  exact .inl h
 simp only [G'];split
 ·rfl
 exact h
end Go.Am
namespace Go.Am
open Go
mutual
def D.kf:D->Bool
 | .list _ []=>true
 | .list _ (_::_)=>false
 | .agg l=>kfD l
 | .iface _ x=>x.kf
 | .ref _=>false
 | _=>true
def kfD:List D->Bool
 | []=>true
 | x::r=>x.kf&&kfD r
end
theorem b4j : ∀ {l:List D},kfD l=true -> ∀ (i:Nat) (hi:i<l.length),l[i].kf=true
 | x::r,h,0,_=>by simp [kfD] at h;exact h.1
 | x::r,h,i+1,hi=>by simp [kfD] at h;exact b4j h.2 i (by simpa using hi)
mutual
def AV.kf:AV->Bool
 | .own .. | .lim .. | .tail .. | .lbox _ | .place .. | .iptr _ | .fresh .. => false
 | .d x=>x.kf
 | .func _ as bs=>kfL as&&kfL bs
 | .agg cs | .tuple cs=>kfL cs
 | _=>true
def kfL:List AV->Bool
 | []=>true
 | c::r=>c.kf&&kfL r
end
theorem a5x : ∀ {l:List AV},kfL l=true -> ∀ (i:Nat) (hi:i<l.length),l[i].kf=true
 | x::r,h,0,_=>by simp [kfL] at h;exact h.1
 | x::r,h,i+1,hi=>by simp [kfL] at h;exact a5x h.2 i (by simpa using hi)
theorem RepD.kf {K K':Addr->Option Value} {x:D} {v:Value} (h:RepD K x v):x.kf=true->RepD K' x v:=by
 induction h with
 | bool b=>exact fun _ => .bool b
 | int k n=>exact fun _ => .int k n
 | str s=>exact fun _ => .str s
 | nilIface=>exact fun _ => .nilIface
 | iface t x v _ ih=>exact fun hk => .iface t x v (ih (by simpa [D.kf] using hk))
 | agg cs vs hs _ h1 ih=>exact fun hk => .agg cs vs hs (fun i hi=>ih i hi (b4j (by simpa [D.kf] using hk) i hi)) h1
 | ref cs b off vs hk h1 _ _=>exact fun hkf=>by simp [D.kf] at hkf
 | nil k=>exact fun _ => .nil k
 | none0 k a=>exact fun _ => .none0 k a
 | list k l b off cap vs hu hc hk h1 _ ih =>
   intro hkf;cases l with
   | nil=>exact .list k [] b off cap vs hu hc (fun j hj=>by simp [D.flat] at hj) (fun j hj=>by simp [D.flat] at hj) (fun j hj=>by simp [D.flat] at hj)
   | cons y r=>simp [D.kf] at hkf
theorem RepV.kf {G G':Gh} {w w':World} {ℓ:Loc} {av:AV} {v:Value} (h:RepV G w ℓ av v) (hβ : ∀ a,a<G.nh->G'.β (.o a)=G.β (.o a)) (hn:G.nh<=G'.nh):av.kf=true -> ∀ ℓ',RepV G' w' ℓ' av v:=by
 induction h with
 | undef ℓ v=>exact fun _ ℓ' => .undef ℓ' v
 | abool ℓ b=>exact fun _ ℓ' => .abool ℓ' b
 | d ℓ x v h=>exact fun hk ℓ' => .d ℓ' x v (h.kf (by simpa [AV.kf] using hk))
 | ptr ℓ a off ha=>intro _ ℓ';rw [<-hβ a ha];exact .ptr ℓ' a off (Nat.lt_of_lt_of_le ha hn)
 | nilptr ℓ=>exact fun _ ℓ' => .nilptr ℓ'
 | iptr ℓ cs b off vs hK h1 h=>intro hk;simp [AV.kf] at hk
 | own ℓ k l v h ht=>intro hk;simp [AV.kf] at hk
 | lim ℓ k l v h ht=>intro hk;simp [AV.kf] at hk
 | tail ℓ k l v h ht=>intro hk;simp [AV.kf] at hk
 | func ℓ f as bs va vb ha hb _ _ hc hc' ih ih' =>
   intro hk ℓ';simp [AV.kf] at hk;exact .func ℓ' f as bs va vb ha hb (fun i hi=>ih i hi (a5x hk.1 i hi) _) (fun i hi=>ih' i hi (a5x hk.2 i hi) _) hc hc'
 | nilfunc ℓ=>exact fun _ ℓ' => .nilfunc ℓ'
 | yield ℓ l hl=>intro _ ℓ';rw [<-hβ l hl];exact .yield ℓ' l (Nat.lt_of_lt_of_le hl hn)
 | map ℓ a ha=>intro _ ℓ';rw [<-hβ a ha];exact .map ℓ' a (Nat.lt_of_lt_of_le ha hn)
 | nilmap ℓ=>exact fun _ ℓ' => .nilmap ℓ'
 | lbox t cs vs e hO hw hs _ hc ih=>intro hk;simp [AV.kf] at hk
 | place ℓ r off=>intro hk;simp [AV.kf] at hk
 | mref ℓ a k lo n b off cap ha h1 h2 h3 h4=>intro _ ℓ';exact .mref ℓ' a k lo n b off cap (Nat.lt_of_lt_of_le ha hn) h1 h2 h3 (fun h=>by rw [hβ a ha];exact h4 h)
 | mcap ℓ a k lo n c b off cap ha h1 h2 h3 h4 h5=>intro _ ℓ';exact .mcap ℓ' a k lo n c b off cap (Nat.lt_of_lt_of_le ha hn) h1 h2 h3 h4 (fun h=>by rw [hβ a ha];exact h5 h)
 | gref ℓ a k p ha hc hq=>intro _ ℓ';rw [<-hβ _ ha,<-hβ _ (by omega:a+1<_)] at hc;rw [<-hβ _ ha,<-hβ _ (by omega:a+1<_)];exact .gref ℓ' a k p (Nat.lt_of_lt_of_le ha hn) hc (fun h=>by rw [hβ _ (by omega:a<_)];exact hq (by rw [<-hβ _ (by omega:a+1<_)];exact h))
 | fresh ℓ k l v h=>intro hk;simp [AV.kf] at hk
 | junk ℓ v h=>exact fun _ ℓ' => .junk ℓ' v h
 | eptr ℓ a k i j ha hi=>intro _ ℓ';rw [<-hβ a ha];exact .eptr ℓ' a k i j (Nat.lt_of_lt_of_le ha hn) hi
 | vptr ℓ a k i j m z ha hi hz hm=>intro _ ℓ';rw [<-hβ a ha];exact .vptr ℓ' a k i j m z (Nat.lt_of_lt_of_le ha hn) hi hz hm
 | agg ℓ cs vs hs _ hc hf ih=>intro hk ℓ';exact .agg ℓ' cs vs hs (fun i hi=>ih i hi (a5x (by simpa [AV.kf] using hk) i hi) _) hc hf
 | tuple ℓ cs vs hs _ hc ih=>intro hk ℓ';exact .tuple ℓ' cs vs hs (fun i hi=>ih i hi (a5x (by simpa [AV.kf] using hk) i hi) _) hc
def AV.kfo:AV->Bool
 | .own _ []=>true
 | c=>c.kf
def AV.kft:AV->Bool
 | .lbox cs=>cs.all AV.kfo
 | c=>c.kf
theorem RepV.kfo {G G':Gh} {w:World} {ℓ:Loc} {av:AV} {v:Value} (h:RepV G w ℓ av v) (hβ : ∀ a,a<G.nh->G'.β (.o a)=G.β (.o a)) (hn:G.nh<=G'.nh) (hO : ∀ b f,G.O b=some (ℓ,f)->G'.O b=some (ℓ,f)) (hk:av.kfo=true):RepV G' w ℓ av v:=by
 cases av with
 | own k l =>
   cases l with
   | nil =>
     cases h with | own _ _ _ _ h ht =>
     refine .own _ _ _ _ (h.kf rfl) fun a n cap e hc => ?_;obtain ⟨f,c,e,h1,h2,h3,h4,h5⟩:=ht a n cap e hc;exact ⟨f,c,e,hO _ _ h1,h2,h3,h4,h5⟩
   | cons x r=>simp [AV.kfo,AV.kf] at hk
 | _=>exact h.kf hβ hn hk ℓ
theorem RepV.kft {G G':Gh} {w:World} {t:Nat} {av:AV} {v:Value} (h:RepV G w (.s t) av v) (hβ : ∀ a,a<G.nh->G'.β (.o a)=G.β (.o a)) (hβs:G'.β (.s t)=G.β (.s t)) (hn:G.nh<=G'.nh)
  (hO : ∀ b f,G.O b=some (.s t,f)->G'.O b=some (.s t,f)) (hOc : ∀ j b f,G.O b=some (.sc t j,f)->G'.O b=some (.sc t j,f)) (hk:av.kft=true):RepV G' w (.s t) av v:=by
 cases av with
 | lbox cs =>
   cases h with | lbox _ _ vs e h1 h2 h3 h4 h5 =>
   have hk' : ∀ c∈cs,c.kfo=true:=by simpa [AV.kft] using hk
   rw [<-hβs] at h1 h2 ⊢;exact .lbox t cs vs e (hO _ _ (by rw [hβs] at h1 ⊢;exact h1)) h2 h3 (fun j hj=>(h4 j hj).kfo hβ hn (hOc j) (hk' _ (zp6 hj))) h5
 | _=>exact h.kf hβ hn hk _
def a7K (σ:St) (ts:List Nat) (i j k:Nat) (l:List D) (cs:List AV) (n:Int):St :=
 { env:=ts.map fun t=>(t,σ.get t),heap:=(List.range σ.heap.length).map (fun x=>if x=i then .cells (cs.set j (.mref σ.heap.length k 0 n)) else .dead)++[.arr k l],n:=σ.n }
theorem a8r (g:Nat->AV) : ∀ (ts:List Nat) (t:Nat),a1T (ts.map fun t=>(t,g t)) t=if t∈ts then g t else .undef
 | [],t=>rfl
 | s::r,t=>by
   simp only [List.map_cons,a1T,a8r g r t,List.mem_cons];by_cases h:s=t
   ·subst h;simp
   have h2 : ¬ t=s:=fun e=>h e.symm;simp [h,h2]
def a7L (l:List D):Bool:=l.all fun x=>match x with | .list _ ys=>scalars ys | _=>false
def loose (l:List D):Bool:=scalars l||a7L l
theorem a5y {l:List D} (h:a7L l=true) {x:D} (hx:x∈l) : ∃ k ys,x = .list k ys/\scalars ys=true:=by
 have:=List.all_eq_true.1 h x hx;cases x <;> first | (simp at this;done) | exact ⟨_,_,rfl,this⟩
theorem a6P : ∀ {l:List D},a7L l=true->D.flat l=l
 | [],_=>rfl
 | x::l,h=>by
   obtain ⟨k,ys,rfl,_⟩:=a5y h (List.mem_cons_self ..);have:=a6P (l:=l) (by unfold a7L at h ⊢;rw [List.all_cons,zp4] at h;exact h.2);unfold D.flat at this ⊢;rw [List.flatMap_cons,this];rfl
theorem RepD.isSlice {K:Addr->Option Value} {k:Nat} {ys:List D} {v:Value} (h:RepD K (.list k ys) v) : ∃ p n c,v = .slice p n c:=by
 generalize hx:D.list k ys=x at h;cases h <;> first | (cases hx;exact ⟨_,_,_,rfl⟩) | (cases hx)
theorem RepD.notSlice {K:Addr->Option Value} {x:D} {p:Option Addr} {n c:Nat} (hs:x.scalar=true) (h:RepD K x (.slice p n c)):False:=by
 generalize hv:Value.slice p n c=v at h;cases h <;> first | (cases hv;done) | (simp [D.scalar] at hs)
theorem RepD.letgo {K K':Addr->Option Value} {b:Nat} {l:List D} (hl:loose l=true) {vs:Nat->Value} (hK : ∀ j,j<(D.flat l).length->K ⟨b,0+j,none⟩=some (vs j)) (hh : ∀ (j:Nat) (hj:j<(D.flat l).length),RepD K (D.flat l)[j] (vs j))
  (hfr : ∀ j,(D.flat l).length<=j->K ⟨b,j,none⟩=none) (hKi : ∀ x v,x.block≠b->K x=some v->K' x=some v) (q:Nat) (hq:q<(D.flat l).length):RepD K' (D.flat l)[q] (vs q):=by
 unfold loose at hl;rw [Bool.or_eq_true] at hl;rcases hl with hs | hs
 ·exact (hh q hq).scalar (a2T hs _ (zp6 hq))
 have hf:=a6P hs;have hmem : ∀ x∈D.flat l,x∈l:=fun x hx=>by rwa [hf] at hx
 obtain ⟨k,ys,he,hy⟩:=a5y hs (hmem _ (zp6 hq));have h:=hh q hq;rw [he] at h ⊢;generalize hv:vs q=v at h ⊢;generalize hx:D.list k ys=x at h ⊢;cases h <;> first | (cases hx;done) | skip
 ·exact .nil _
 ·exact .none0 _ _
 rename_i k' l' b' off cap ws hu hc hK2 h1 h2;cases hx;refine .list k ys b' off cap ws hu hc (fun j hj=>hKi _ _ ?_ (hK2 j hj)) h1 (fun j hj=>(h2 j hj).scalar (a2T hy _ (zp6 hj)));rintro rfl;have e1:=hK2 j hj;rcases Nat.lt_or_ge (off+j) (D.flat l).length with hlt | hge
 ·have e2:=hK (off+j) hlt;rw [Nat.zero_add,e1] at e2;obtain ⟨k3,ys3,he3,_⟩:=a5y hs (hmem _ (zp6 hlt));have h3:=hh (off+j) hlt;rw [he3,<-Option.some.inj e2] at h3;obtain ⟨p,n,c,hv3⟩:=h3.isSlice;have h4:=h2 j hj;rw [hv3] at h4;exact h4.notSlice (a2T hy _ (zp6 hj))
 rw [hfr _ hge] at e1;cases e1
theorem Rel.thawC {G:Gh} {σ:St} {a:Act} {w:World} (R:Rel G σ a w) {ts:List Nat} {i j k:Nat} {l:List D} {cs:List AV} {n:Int} (hi:σ.heap[i]?=some (.cells cs)) (hj:cs[j]?=some (.own k l)) (hl:l≠[]) (hs:loose l=true) (hn:(l.length:Int)=n)
  (hts : ∀ t∈ts,(σ.get t).kft=true) (hcs : ∀ q c,q≠j->cs[q]?=some c->c.kf=true) :
  ∃ b G',Rel G' (a7K σ ts i j k l cs n) a w/\(∃ p,G.O b=some p)/\(∀ x v,G'.K x=some v↔x.block≠b/\G.K x=some v)/\(∀ c,G.O c=none->G'.O c=none):=by
 have hil:i<σ.heap.length:=(zp2.1 hi).1;have hjl:j<cs.length:=(zp2.1 hj).1;have hcj:cs[j] = .own k l:=(zp2.1 hj).2;obtain ⟨vs,e,o1,o2,o3,o4,o5⟩:=R.h.objs i _ hi;have hv:=o4 j hjl;rw [hcj] at hv;generalize hvv0:vs.getD j Go.undef=v at hv;cases hv with | own _ _ _ _ hr ht =>
 rcases hr.slice with ⟨rfl,_⟩ | ⟨b,off,cap,hvv⟩
 ·exact absurd rfl hl
 have hlen:0<l.length:=List.length_pos_iff.2 hl;have hcap:l.length<=cap:=by
  rw [hvv] at hr;generalize hv':Value.slice (some ⟨b,off,none⟩) l.length cap=v at hr;cases hr with
  | nil=>simp at hv'
  | none0=>simp
  | list k l b' off' cap' vs hu hc=>simp at hv';omega
 obtain ⟨fr,c,e0,t1,t2,t3,t4,t5⟩:=ht _ _ _ hvv (by omega);dsimp only at t1 t2 t3 t4 t5;subst t5;have hnh:σ.heap.length=G.nh:=R.h.nh;obtain ⟨hu,hK,hKK,h1c,hh⟩:a0u k l /\ ∃ vs:Nat->Value,(∀ j,j<(D.flat l).length->G.K ⟨b,0+j,none⟩=some (vs j))/\(∀ j,j<(D.flat l).length->(vs j).oneCell'=true) /\ ∀ (j:Nat) (hj:j<(D.flat l).length),RepD G.K (D.flat l)[j] (vs j):=by
  rw [hvv] at hr;generalize hv':Value.slice (some ⟨b,0,none⟩) l.length cap=v at hr;cases hr with
  | nil=>simp at hv'
  | none0=>exact absurd rfl hl
  | list k l b' off' cap' vs hu hc hK h1 hh =>
    simp at hv';obtain ⟨⟨rfl,rfl⟩,_⟩:=hv';exact ⟨hu,vs,hK,h1,hh⟩
 have hfl:=a0e hu;have hsz:(D.flat l).length<=c.size:=by
  have:l.length*k<=cap*k:=Nat.mul_le_mul_right k hcap;omega
 have hcell : ∀ j,j<(D.flat l).length->c.getD j Go.undef=hK j:=by
  intro j hj;have:=R.h.kept _ _ (hKK j hj);rw [Nat.zero_add] at this;have h2:=a1m t3 (show j<c.size by omega);rw [this] at h2;exact (Option.some.inj h2).symm
 have hbi:b≠G.β (.o i):=by rintro rfl;rw [o1] at t1;cases t1
 let G':Gh:={ K:=fun x=>if x.block=b then none else G.K x,O:=fun x=>if x=b then some (.o G.nh,0) else G.O x,β:=fun r=>if r = .o G.nh then b else G.β r,nh:=G.nh+1 }
 have hβ : ∀ i,i<G.nh->G'.β (.o i)=G.β (.o i):=by
  intro i hi;simp only [G',Root.o.injEq];rw [if_neg (by omega)]
 have hKi : ∀ x v,G'.K x=some v↔x.block≠b/\G.K x=some v:=by
  intro x v;simp only [G'];split <;> simp_all
 have hin:i<G.nh:=by omega
 have hOo : ∀ {ℓ:Loc},ℓ ≠ .oc i j -> ∀ b' f',G.O b'=some (ℓ,f')->G'.O b'=some (ℓ,f'):=by
  intro ℓ hne b' f' h;simp only [G'];rw [if_neg];exact h;rintro rfl;rw [t1] at h;simp at h;exact hne h.1.symm
 refine ⟨b,G',⟨⟨⟨fun b' ℓ f' h => ?_⟩,by simp [a7K,G',hnh],fun i' ob hob => ?_,fun x v h=>R.h.kept x v ((hKi x v).1 h).2,fun b' ℓ f' h => ?_⟩,R.size,fun t => ?_,fun t r off' ht => ?_,?_⟩,⟨_,t1⟩,hKi,fun c' hc' => ?_⟩
 ·simp only [G'] at h;split at h
  ·simp at h;rw [<-h.1];simp [Loc.root]
  exact R.h.sane.no b' ℓ f' h
 ·simp only [a7K] at hob;rcases Nat.lt_or_ge i' σ.heap.length with hlt | hge
  ·rw [zp7 (by simpa using hlt)] at hob;rw [List.getElem?_map,List.getElem?_range hlt] at hob;simp only [Option.map_some,zp3] at hob;split at hob
   ·rename_i hii;subst hii;subst hob;refine ⟨vs,e,?_,?_,by simpa using o3,fun q hq => ?_,fun x hx => ?_⟩
    ·rw [hβ i' hin];simp only [G'];rw [if_neg (Ne.symm hbi)];exact o1
    ·rw [hβ i' hin];exact o2
    ·rw [List.length_set] at hq;by_cases hqj:q=j
     ·subst hqj;rw [List.getElem_set_self,hvv0,hvv,hnh,<-hn];have:=RepV.mref (G:=G') (w:=w) (.oc i' q) G.nh k 0 (l.length:Int) b 0 cap (by simp [G']) (Int.le_refl _) (by omega) (by simpa using hcap) (fun _=>⟨by simp [G'],by simp⟩);simpa using this
     rw [List.getElem_set_ne (Ne.symm hqj)];exact (o4 q hq).kf hβ (Nat.le_succ _) (hcs q _ hqj (zp1 hq)) _
    rcases List.mem_or_eq_of_mem_set hx with hx | rfl
    ·exact o5 x hx
    rfl
   subst hob;trivial
  rcases Nat.eq_or_lt_of_le hge with rfl | hgt
  ·rw [zp8 (by simp)] at hob;simp at hob;subst hob;refine ⟨c,e0,?_,?_,hu,hsz,fun q hq => ?_,fun q hq => ?_⟩
   ·simp [G',hnh]
   ·simpa [G',hnh] using t3
   ·rw [hcell q hq];exact h1c q hq
   rw [hcell q hq];exact RepD.letgo hs hKK hh (fun x hx=>(R.h.disj _ _ _ t1).2 x (by omega)) (fun x v hx hv=>(hKi x v).2 ⟨hx,hv⟩) q hq
  rw [List.getElem?_eq_none (by simp;omega)] at hob;cases hob
 ·simp only [G'] at h ⊢;split at h
  ·rename_i hb;subst hb;exact ⟨(R.h.disj _ _ _ t1).1,fun q _=>by simp⟩
  rename_i hb;have:=R.h.disj b' ℓ f' h;exact ⟨this.1,fun q hq=>by simp only [hb,if_false];exact this.2 q hq⟩
 ·simp only [a7K,St.get,a8r];split
  ·rename_i htm;exact (R.slots t).kft hβ (by simp [G']) (Nat.le_succ _) (hOo (by simp)) (fun j=>hOo (by simp)) (hts t htm)
  exact .undef _ _
 ·simp only [a7K,St.get,a8r] at ht;split at ht
  ·rename_i htm;have:=hts t htm;simp only [St.get] at this;rw [ht] at this;simp [AV.kft,AV.kf] at this
  cases ht
 ·refine ⟨R.df.1,fun d hd => ?_⟩;obtain ⟨r0,h1,h2,h3⟩:=R.df.2 d hd;refine ⟨r0,h1,?_,h3⟩;simp only [G'];rw [if_neg (by rintro rfl;rw [h2] at t1;cases t1)];exact h2
 simp only [G'];rw [if_neg (by rintro rfl;rw [t1] at hc';cases hc')];exact hc'
def a6d (P:Program) (c:Code) (Q:Exit->St->Prop) (σ:St):Prop :=
 ∀ (n:Nat) (G0:Gh) (w0:World) (G:Gh) (a:Act) (w:World),(∀ b,G0.O b=none)->(∀ x v,G0.K x=some v->x.block<w0.heap.size)->Rel G σ a w->Ext 0 G0 w0 G w->c.wpIn (Wd none) n P (Post 0 G0 w0 Q) a w
section
variable {P:Program} {c x y:Code} {Q:Exit->St->Prop} {σ:St}
theorem a6d.of (h:a2R P 0 c Q σ):a6d P c Q σ:=fun n G0 w0 G a w _ _ R hE=>wpIn_mono (h n G a w (Nat.zero_le _) R) (fun _ _ _ hp=>hp.ext hE)
theorem a6d.seq (h:a2R P 0 x (AExit.then (a6d P y Q) Q) σ):a6d P (.seq x y) Q σ:=by
 intro n G0 w0 G a w hO hK R hE0;refine wpIn_seq (wpIn_mono (h n G a w (Nat.zero_le _) R) ?_);rintro e a' w' ⟨σ',G',R',hE,hm',hQ⟩;cases e with
 | normal=>exact hQ n G0 w0 G' a' w' hO hK R' (hE0.trans hE)
 | _=>exact ⟨σ',G',R',hE0.trans hE,hm',hQ⟩
theorem a6d.seq2 (h:a6d P x (AExit.then (a6d P y Q) Q) σ):a6d P (.seq x y) Q σ:=by
 intro n G0 w0 G a w hO hK R hE0;refine wpIn_seq (wpIn_mono (h n G0 w0 G a w hO hK R hE0) ?_);rintro e a' w' ⟨σ',G',R',hE,hm',hQ⟩;cases e with
 | normal=>exact hQ n G0 w0 G' a' w' hO hK R' hE
 | _=>exact ⟨σ',G',R',hE,hm',hQ⟩
theorem a6d.thawC (ts:List Nat) (i j:Nat) {k:Nat} {l:List D} {cs:List AV} {n:Int} (hi:σ.heap[i]?=some (.cells cs)) (hj:cs[j]?=some (.own k l)) (hl:l≠[]) (hs:loose l=true) (hn:(l.length:Int)=n)
  (hts:ts.all (fun t=>(σ.get t).kft)=true) (hcs:kfL (cs.set j .undef)=true) (h:a6d P c Q (a7K σ ts i j k l cs n)):a6d P c Q σ:=by
 intro n' G0 w0 G a w hO hK R hE;obtain ⟨b,G',R',⟨p,hb⟩,hKi,hO'⟩:=R.thawC (ts:=ts) hi hj hl hs hn (fun t ht=>List.all_eq_true.1 hts t ht) (fun q c hq hc=>by
  have hql:q<cs.length:=(zp2.1 hc).1;have:=a5x hcs q (by simpa using hql);rw [List.getElem_set_ne (Ne.symm hq)] at this;rw [(zp2.1 hc).2] at this;exact this)
 have hnew:w0.heap.size<=b:=by
  rcases Nat.lt_or_ge b w0.heap.size with hlt | hge
  ·have:=(hE.others b hlt (hO b)).2;rw [hb] at this;cases this
  exact hge
 refine h n' G0 w0 G' a w hO hK R' ⟨fun x v hx=>(hKi x v).2 ⟨fun e => ?_,hE.K x v hx⟩,fun x v hx=>hE.new x v ((hKi x v).1 hx).2,fun b' hb' hO1=>⟨(hE.others b' hb' hO1).1,hO' _ (hE.others b' hb' hO1).2⟩,hE.size,fun i hi=>absurd hi (Nat.not_lt_zero _),hE.io⟩;have:=hK x v hx;omega
end
theorem a0c.enterR {P:Program} {T:a0m} (hT:TOk P T) {f:FuncId} {fn:Func} {c:Code} {args:List AV} {H':List Obj} {r:AV} (hf:P.funcs[f]?=some fn) (hb:fn.body=some c) (hname:fn.name ≠ "runtime.NumGoroutine")
  (hn:args.length<=fn.ntmps) (hfr:args.all AV.free=true) (hia:a3L 0 args=true) (hrl:r.isLocal=false) (hri:r.inb H'.length=true) (hin:a0s H'.length H'=true)
  (h:a6d P c (a7I T fn 0 r H') { env:=a7u 0 args,heap:=[],n:=fn.ntmps }):a0c P f args [] r H':=by
 refine ⟨by simp [a1N,hf,hb,hname],hrl,hri,hin,Nat.zero_le _,fun n G w vs hvs hrep RH _ => ?_⟩;let G1:Gh:={ G with O:=fun _=>none }
 have RH1:RelH G1 [] w:=⟨⟨fun b ℓ f h=>by cases h⟩,RH.nh,fun i ob h=>by simp at h,RH.kept,fun b ℓ f h=>by cases h⟩;have hfr' : ∀ c∈args,c.free=true:=by simpa using hfr
 have hsub:Sub G G1 w w (fun ℓ=>ℓ = .no) 0:=⟨KLe.refl _,fun b ℓ f hl hO=>absurd (hl▸rfl) (RH.sane.no b ℓ f hO),fun _ _=>rfl,Nat.zero_le _⟩
 refine CallsIn.mono (a0c.enterW hT hf hb hname hn hfr hrl hri hin (Nat.zero_le _) n G1 w (fun a R=>h n G1 w G1 a w (fun _=>rfl) (fun x v hx=>World.block_lt_of_cell? w _ (RH.kept x v hx)) R (Ext.refl _ _ _)) vs hvs
  (fun i hi=>(hrep i hi).sub RH.sane hsub rfl (a0R hia i hi) (AV.free_isLocal (hfr' _ (zp6 hi)))) RH1) ?_
 rintro e w' ⟨v,G',rfl,hv,R',hE⟩;exact ⟨v,G',rfl,hv,R',hE.K,fun x v hx=>(hE.new x v hx).imp id (fun h=>h.elim (fun ⟨p,hp⟩=>by cases hp) .inr),fun b hb _=>hE.others b hb rfl,hE.size,fun i hi=>absurd hi (Nat.not_lt_zero _),hE.io⟩
end Go.Am
namespace Go.Am
open Go
section
variable (x y:Int) (l m:List D)
@[simp] theorem a0Z:Ar.std.zle x y=decide (x<=y):=rfl
@[simp] theorem a0x:Ar.std.zlt x y=decide (x<y):=rfl
@[simp] theorem a0F:Ar.std.zeq x y=decide (x=y):=rfl
@[simp] theorem a0g (k:IntKind):Ar.std.wrp k x=k.wrap x:=rfl
@[simp] theorem a0i:Ar.std.zadd x y=x+y:=rfl
@[simp] theorem a0D:Ar.std.zsub x y=x-y:=rfl
@[simp] theorem a8s:Ar.std.zmul x y=x*y:=rfl
@[simp] theorem c4t:Ar.std.nat x=x.toNat:=rfl
@[simp] theorem c4u:Ar.std.len l=(l.length:Int):=rfl
@[simp] theorem a4Z (i:Nat):Ar.std.lget l i=l[i]?:=rfl
@[simp] theorem b1o:Ar.std.fits x=decide (x<4294967296):=rfl
@[simp] theorem b4k:Ar.std.sub l x y=(l.drop x.toNat).take (y.toNat-x.toNat):=rfl
@[simp] theorem c4v:Ar.std.app l m=l++m:=rfl
@[simp] theorem c4w (k:IntKind):Ar.std.quo k x y=k.wrap (x.tdiv y):=rfl
@[simp] theorem a8t:Ar.std.rem x y=x.tmod y:=rfl
@[simp] theorem c4x (k:IntKind):Ar.std.shl k x y=k.wrap (x*2 ^ (min y.toNat k.bits)):=rfl
@[simp] theorem b8h (k:IntKind):Ar.std.shr k x y=x.fdiv (2 ^ (min y.toNat k.bits)):=rfl
@[simp] theorem b5X (op:BinOp) (k:IntKind):Ar.std.bits op k x y=a2e op k x y:=rfl
@[simp] theorem c4y (a b:Bool):Ar.std.beq a b=(a == b):=rfl
@[simp] theorem c2O:Ar.std.zmin x y=if y<x then y else x:=rfl
@[simp] theorem c2P:Ar.std.zmax x y=if y>x then y else x:=rfl
@[simp] theorem c2Q (es:List (D×D)) (k:D):Ar.std.mget es k=Am.mget es k:=rfl
@[simp] theorem b5Y (es:List (D×D)) (k v:D):Ar.std.mput es k v=Am.mput es k v:=rfl
@[simp] theorem b5Z (i:Nat) (d:D):Ar.std.lset l i d=l.set i d:=rfl
@[simp] theorem c4z (d:D):Ar.std.rep x d=List.replicate x.toNat d:=rfl
@[simp] theorem c2R:Ar.std.ones l=l.all D.isOne:=rfl
@[simp] theorem c4A:Ar.std.spl l x m=l.take x.toNat++m++l.drop (x.toNat+m.length):=rfl
@[simp] theorem b6a (d:D):Ar.std.fill l x y d=a1B l x y d:=rfl
open Classical in
@[simp] theorem b8i:Ar.std.deq l m=decide (l=m):=rfl
end
theorem a8P (n:Int) (h0 : -9223372036854775808<=n) (h1:n<9223372036854775808):IntKind.i64.wrap n=n:=by
 simp [IntKind.wrap_i64];omega
theorem u8w (n:Int) (h0:0<=n) (h1:n<256):IntKind.u8.wrap n=n:=by
 simp [IntKind.wrap_u8];omega
@[simp] theorem a0l {α β:Type} (a:α) (f:α->Option β):(some a).bind f=f a:=rfl
@[simp] theorem a4H:ck true=some ():=rfl
@[simp] theorem b1p:nk false=some ():=rfl
theorem a4I {b:Bool} (h:b=true):ck b=some ():=by rw [h];rfl
@[simp] theorem a0O {α:Type} (c:Bool) (a b:α):(bif c then some a else some b)=some (bif c then a else b):=by cases c <;> rfl
@[simp] theorem c6b (k:IntKind) (n:Int):(cI k).un (.int k n)=some n:=by simp [cI]
@[simp] theorem c6c (b:Bool):cB.un (.bool b)=some b:=rfl
@[simp] theorem c6d (b:ByteArray):cS.un (.str b)=some b:=rfl
@[simp] theorem c6e (l:List D):cA.un (.agg l)=some l:=rfl
@[simp] theorem c6f {τ:Type} (c:Cod τ) (x:D):(l1 c).un [x]=c.un x:=rfl
@[simp] theorem c6g {τ ρ:Type} (c:Cod τ) (d:CodL ρ) (x:D) (r:List D):(lc c d).un (x::r)=(c.un x).bind fun a=>(d.un r).map fun b=>(a,b):=rfl
@[simp] theorem c6h {τ:Type} (d:CodL τ) (l:List D):(cG d).un (.agg l)=d.un l:=rfl
theorem c0O {α:Type} (f:α->D) (l:List α) (lo hi:Int) (h0:0<=lo) (h1:lo<=hi) (h2:hi<=l.length):sl Ar.std (l.map f) lo hi=some (((l.drop lo.toNat).take (hi.toNat-lo.toNat)).map f):=by
 simp [sl,h0,h1,h2,List.map_take,List.map_drop]
theorem b8j {α:Type} (f:α->D) (l:List α) (i:Nat) (h2:i<=l.length):sl Ar.std (l.map f) 0 (i:Int)=some ((l.take i).map f):=by
 rw [c0O f l 0 i (by omega) (by omega) (by omega)];simp
theorem b7l {α:Type} (f:α->D) (l m:List α) (h:(l.length:Int)+m.length<4294967296):ap Ar.std (l.map f) (m.map f)=some ((l++m).map f):=by
 simp [ap,h]
section
variable {S X:Type} {step:S->Option (S⊕X)}
end
def a5T {α S X:Type} (f:S->α->S⊕X) (fin:S->X):List α->S->X
 | [],s=>fin s
 | a::l,s=>(f s a).elim (a5T f fin l) id
section
variable {α S X:Type}
theorem a3n (f:S->α->S⊕X) (fin:S->X) (a:α) (l:List α) (s:S):a5T f fin (a::l) s=(f s a).elim (a5T f fin l) id:=rfl
theorem a6Q (g:S->α->S) (fin:S->X) : ∀ (l:List α) (s:S),a5T (fun s a => .inl (g s a)) fin l s=fin (l.foldl g s)
 | [],_=>rfl
 | a::l,s=>by simp only [a3n,Sum.elim_inl,a6Q g fin l,List.foldl_cons]
variable {T:Type} {step:T->Option (T⊕X)}
theorem a4c (l:List α) (st:S->Nat->T) (f:S->α->S⊕X) (fin:S->X) (Inv:Nat->S->Prop)
  (hs : ∀ i a s,l[i]?=some a->Inv i s->(∃ s',f s a = .inl s'/\Inv (i+1) s'/\step (st s i)=some (.inl (st s' (i+1))))\/(∃ x,f s a = .inr x/\step (st s i)=some (.inr x)))
  (he : ∀ s,Inv l.length s->step (st s l.length)=some (.inr (fin s))) (s0:S) (h0:Inv 0 s0):iter step (st s0 0)=some (a5T f fin l s0):=by
 have key : ∀ (k i:Nat) (s:S),i+k=l.length->Inv i s->iter step (st s i)=some (a5T f fin (l.drop i) s):=by
  intro k
  induction k with
  | zero =>
    intro i s hi hI;obtain rfl:i=l.length:=by omega
    rw [List.drop_length,a1X (he s hI)];rfl
  | succ k ih =>
    intro i s hi hI;have hlt:i<l.length:=by omega
    rw [List.drop_eq_getElem_cons hlt,a3n];rcases hs i l[i] s (zp1 hlt) hI with ⟨s',h1,h2,h3⟩ | ⟨x,h1,h3⟩
    ·rw [h1,a4o h3,ih (i+1) s' (by omega) h2];rfl
    rw [h1,a1X h3];rfl
 have:=key l.length 0 s0 (by omega) h0;simpa using this
theorem a4p (l:List α) (st:S->Nat->T) (f:S->α->S⊕X) (fin:S->X)
  (hs : ∀ i a s,l[i]?=some a->i<l.length->step (st s i)=some ((f s a).elim (fun s' => .inl (st s' (i+1))) .inr))
  (he : ∀ s,step (st s l.length)=some (.inr (fin s))) (s0:S):iter step (st s0 0)=some (a5T f fin l s0):=by
 refine a4c l st f fin (fun _ _=>True) (fun i a s ha _ => ?_) (fun s _=>he s) s0 trivial;have:=hs i a s ha (zp2.1 ha).1;cases hf:f s a with
 | inl s'=>rw [hf] at this;exact .inl ⟨s',rfl,trivial,this⟩
 | inr x=>rw [hf] at this;exact .inr ⟨x,rfl,this⟩
end
section
variable {α τ:Type}
theorem b7m {l m:List D} (h:(l.length:Int)+m.length<4294967296):ap Ar.std l m=some (l++m):=by
 simp [ap,h]
theorem c4B {i n:Nat} (h:i<n) (hn:n<9223372036854775808):IntKind.i64.wrap ((i:Int)+1)=((i+1:Nat):Int):=by
 rw [a8P _ (by omega) (by omega)];omega
end
section
variable {τ:Type}
def ltF (f:τ->τ->Option Int) (x y:τ):Bool:=match f x y with
 | some r=>decide (r<0)
 | none=>false
structure CmpOk (f:τ->τ->Option Int) (xs:List τ):Prop where
 some : ∀ x∈xs,∀ y∈xs,∃ r,f x y=some r
 irr : ∀ x∈xs,ltF f x x=false
 tr : ∀ x∈xs,∀ y∈xs,∀ z∈xs,ltF f x y=true->ltF f y z=true->ltF f x z=true
 tot : ∀ x∈xs,∀ y∈xs,ltF f x y=false->ltF f y x=false->x=y
theorem CmpOk.ntr {f:τ->τ->Option Int} {xs:List τ} (h:CmpOk f xs) : ∀ x∈xs,∀ y∈xs,∀ z∈xs,ltF f x y=false->ltF f y z=false->ltF f x z=false:=by
 intro x hx y hy z hz h1 h2;cases h3:ltF f x z with
 | false=>rfl
 | true =>
   cases h4:ltF f y x with
   | false=>rw [h.tot x hx y hy h1 h4] at h3;rw [h3] at h2;cases h2
   | true=>rw [h.tr y hy x hx z hz h4 h3] at h2;cases h2
open Classical in
noncomputable def srt (c:Cod τ) (f:τ->τ->Option Int) (lo n:Int) (l:List D):Option (List D) :=
 if h:lo=0/\n=(l.length:Int)/\n<4611686018427387904 /\ ∃ xs:List τ,l=xs.map c.en/\CmpOk f xs then some ((h.2.2.2.choose.mergeSort fun x y => !ltF f y x).map c.en) else none
theorem Cod.inj (c:Cod τ) {x y:τ} (h:c.en x=c.en y):x=y:=by
 have:=c.ko x;rw [h,c.ko] at this;exact (Option.some.inj this).symm
theorem Cod.map_inj (c:Cod τ) : ∀ {xs ys:List τ},xs.map c.en=ys.map c.en->xs=ys
 | [],[],_=>rfl
 | [],_::_,h=>by simp at h
 | _::_,[],h=>by simp at h
 | x::xs,y::ys,h=>by
   simp at h;rw [c.inj h.1,Cod.map_inj c (xs:=xs) (ys:=ys) (by simpa using h.2)]
theorem b7n {c:Cod τ} {f:τ->τ->Option Int} {n:Int} {xs:List τ} (hn:n=(xs.length:Int)) (hs:n<4611686018427387904) (h:CmpOk f xs):srt c f 0 n (xs.map c.en)=some ((xs.mergeSort fun x y => !ltF f y x).map c.en):=by
 have hh:(0:Int)=0/\n=((xs.map c.en).length:Int)/\n<4611686018427387904 /\ ∃ ys:List τ,xs.map c.en=ys.map c.en/\CmpOk f ys:=⟨rfl,by simpa using hn,hs,xs,rfl,h⟩;unfold srt;rw [dif_pos hh];have:=hh.2.2.2.choose_spec.1;rw [<-c.map_inj this]
theorem c6i {c:Cod τ} {f:τ->τ->Option Int} {lo n:Int} {l l':List D} (h:srt c f lo n l=some l'):lo=0/\n=(l.length:Int)/\n<4611686018427387904 /\ ∃ xs:List τ,l=xs.map c.en/\CmpOk f xs/\l'=(xs.mergeSort fun x y => !ltF f y x).map c.en:=by
 unfold srt at h;split at h
 ·rename_i hh;have hc:=hh.2.2.2.choose_spec;generalize hh.2.2.2.choose=xs at h hc;exact ⟨hh.1,hh.2.1,hh.2.2.1,xs,hc.1,hc.2,(Option.some.inj h).symm⟩
 cases h
end
def enc {τ:Type} (c:Cod τ) (l:List τ):List D:=l.map c.en
section
variable {τ α:Type} {c:Cod τ} {l m:List τ}
@[simp] theorem c4C:enc c []=[]:=rfl
@[simp] theorem c2S (a:τ):enc c (a::l)=c.en a::enc c l:=rfl
theorem b2t:enc c (l++m)=enc c l++enc c m:=by simp [enc]
@[simp] theorem b2u:(enc c l).length=l.length:=by simp [enc]
theorem a4J (i:Nat):(enc c l)[i]?=l[i]?.map c.en:=by simp [enc]
theorem a0t {i:Nat} {a:τ} (h:l[i]?=some a):gt Ar.std c (enc c l) (i:Int)=some a:=by simp [gt,a4J,h,c.ko]
theorem a1R {i:Int} {a:τ} (h0:0<=i) (h:l[i.toNat]?=some a):gt Ar.std c (enc c l) i=some a:=by simp [gt,h0,a4J,h,c.ko]
theorem a2U {i:Nat} {a:τ} (h:l[i]?=some a):gc Ar.std c (enc c l) i=some a:=by simp [gc,a4J,h,c.ko]
theorem a5z {g:α->τ} {l:List α} {i:Nat} {a:α} (h:l[i]?=some a):gt Ar.std c (enc c (l.map g)) (i:Int)=some (g a):=a0t (by simp [h])
theorem a4K {g:α->τ} {l:List α} {i:Int} {a:α} (h0:0<=i) (h:l[i.toNat]?=some a):gt Ar.std c (enc c (l.map g)) i=some (g a):=a1R h0 (by simp [h])
@[simp] theorem a0p:Ar.std.len (enc c l)=(l.length:Int):=by simp
theorem a4L {i:Nat} (h:i<=l.length):sl Ar.std (enc c l) 0 (i:Int)=some (enc c (l.take i)):=b8j _ _ _ h
theorem a1y {a:τ} {d:D} (hd:c.en a=d) (h:l.length<4294967295):ap Ar.std (enc c l) [d]=some (enc c (l++[a])):=by
 subst hd;have:[c.en a]=[a].map c.en:=rfl;rw [this];exact b7l _ l [a] (by simp;omega)
theorem c0P (h:(l.length:Int)+m.length<4294967296):ap Ar.std (enc c l) (enc c m)=some (enc c (l++m)):=b7l _ l m h
theorem b8k (h:l.length<4294967296):ap Ar.std [] (enc c l)=some (enc c l):=by
 have:=c0P (c:=c) (l:=[]) (m:=l) (by simp;omega);simpa using this
end
section
variable {S X α:Type}
theorem a2V {step:Int->Option (Int⊕X)} (n:Nat) (p:Nat->Bool) (x y:X)
  (hs : ∀ i,i<n->step (i:Int)=some (bif p i then .inr x else .inl ((i+1:Nat):Int))) (he:step (n:Int)=some (.inr y)):iter step 0=some (bif (List.range n).any p then x else y):=by
 have key : ∀ k i,i+k=n->iter step (i:Int)=some (bif ((List.range' i k).any p) then x else y):=by
  intro k
  induction k with
  | zero=>intro i hi;obtain rfl:i=n:=by omega
          simpa using a1X he
  | succ k ih =>
    intro i hi;have h:=hs i (by omega);rw [List.range'_succ,List.any_cons];cases hp:p i with
    | true=>rw [hp] at h;simpa using a1X h
    | false=>rw [hp] at h;rw [a4o h,ih (i+1) (by omega)];rfl
 have:=key n 0 (by omega);rw [List.range_eq_range'];simpa using this
theorem b4l {l:List α} {q:α->Bool} {p:Nat->Bool} (h : ∀ i a,l[i]?=some a->p i=q a):(List.range l.length).any p=l.any q:=by
 rw [Bool.eq_iff_iff];simp only [List.any_eq_true,List.mem_range];constructor
 ·rintro ⟨i,hi,hp⟩;exact ⟨l[i],zp6 hi,by rw [<-h i _ (zp1 hi)];exact hp⟩
 rintro ⟨a,ha,hq⟩;obtain ⟨i,hi,rfl⟩:=List.getElem_of_mem ha;exact ⟨i,hi,by rw [h i _ (zp1 hi)];exact hq⟩
theorem a1k {step:Int->Option (Int⊕X)} (l:List α) (p:α->Bool) (x y:X)
  (hs : ∀ i a,l[i]?=some a->i<l.length->step (i:Int)=some (bif p a then .inr x else .inl ((i+1:Nat):Int))) (he:step (l.length:Int)=some (.inr y)):iter step 0=some (bif l.any p then x else y):=by
 have:=a2V (step:=step) l.length (fun i=>(l[i]?.map p).getD false) x y (fun i hi=>by
  have h:=zp1 hi;rw [h];exact hs i _ h hi) he
 rw [this,b4l (q:=p) (fun i a h=>by rw [h];rfl)]
theorem a1o {step:Int->Option (Int⊕X)} (l:List α) (p:α->Bool) (f:Nat->X) (y:X)
  (hs : ∀ i a,l[i]?=some a->i<l.length->step (i:Int)=some (bif p a then .inr (f i) else .inl ((i+1:Nat):Int))) (he:step (l.length:Int)=some (.inr y)):iter step 0=some ((l.findIdx? p).elim y f):=by
 have key : ∀ k i,i+k=l.length->iter step (i:Int)=some (((l.drop i).findIdx? p).elim y (fun j=>f (i+j))):=by
  intro k
  induction k with
  | zero=>intro i hi;obtain rfl:i=l.length:=by omega
          simpa using a1X he
  | succ k ih =>
    intro i hi;have hlt:i<l.length:=by omega
    have h:=hs i _ (zp1 hlt) hlt;rw [List.drop_eq_getElem_cons hlt,List.findIdx?_cons];cases hp:p l[i] with
    | true=>rw [hp] at h;simpa using a1X h
    | false =>
      rw [hp] at h;rw [a4o h,ih (i+1) (by omega)];cases hd:(l.drop (i+1)).findIdx? p with
      | none=>simp
      | some j=>simp;congr 1;omega
 have:=key l.length 0 (by omega);simpa using this
theorem b4m {T:Type} {step:T->Option (T⊕X)} (l:List α) (st:S->Nat->T) (f:S->α->S) (fin:S->X)
  (hs : ∀ i a s,l[i]?=some a->i<l.length->step (st s i)=some (.inl (st (f s a) (i+1)))) (he : ∀ s,step (st s l.length)=some (.inr (fin s))) (s0:S):iter step (st s0 0)=some (fin (l.foldl f s0)):=by
 rw [a4p l st (fun s a => .inl (f s a)) fin (fun i a s ha hi=>hs i a s ha hi) he s0,a6Q]
end
theorem a9B {S Y Z:Type} {step:S->Option (S⊕(Y⊕Z))} (n:Nat) (st:Nat->S) (p:Nat->Bool) (y:Y)
  (hs : ∀ i,i<n->(∀ j,j<i->p j=false)->(p i=false->step (st i)=some (.inl (st (i+1))))/\(p i=true -> ∃ z,step (st i)=some (.inr (.inr z))))
  (he:(∀ j,j<n->p j=false)->step (st n)=some (.inr (.inl y))) :
  ((List.range n).any p=false/\(∀ j,j<n->p j=false)/\iter step (st 0)=some (.inl y))\/((List.range n).any p=true /\ ∃ z,iter step (st 0)=some (.inr z)):=by
 have key : ∀ k i,i+k=n->(∀ j,j<i->p j=false)->((∀ j,j<n->p j=false)/\iter step (st i)=some (.inl y))\/((∃ j,j<n/\p j=true) /\ ∃ z,iter step (st i)=some (.inr z)):=by
  intro k
  induction k with
  | zero=>intro i hi hp;obtain rfl:i=n:=by omega
          exact .inl ⟨hp,a1X (he hp)⟩
  | succ k ih =>
    intro i hi hp;obtain ⟨h1,h2⟩:=hs i (by omega) hp;cases hpi:p i with
    | false =>
      rw [a4o (h1 hpi)];exact ih (i+1) (by omega) (fun j hj=>by
       rcases Nat.lt_or_eq_of_le (Nat.le_of_lt_succ hj) with h | h
       ·exact hp j h
       rw [h];exact hpi)
    | true =>
      obtain ⟨z,hz⟩:=h2 hpi;exact .inr ⟨⟨i,by omega,hpi⟩,z,a1X hz⟩
 rcases key n 0 (by omega) (fun j hj=>by omega) with ⟨h1,h2⟩ | ⟨⟨j,h1,h2⟩,h3⟩
 ·refine .inl ⟨?_,h1,h2⟩;rw [Bool.eq_false_iff];intro h;simp only [List.any_eq_true,List.mem_range] at h;obtain ⟨j,hj,hp⟩:=h;rw [h1 j hj] at hp;cases hp
 exact .inr ⟨by simp only [List.any_eq_true,List.mem_range];exact ⟨j,h1,h2⟩,h3⟩
theorem a4d {S T X:Type} {step:T->Option (T⊕X)} (n:Nat) (st:S->Nat->T) (R:Nat->S->Prop) (E:Nat->X->Prop) (fin:S->X)
  (hs : ∀ i s,i<n->R i s->(∃ s',R (i+1) s'/\step (st s i)=some (.inl (st s' (i+1)))) \/ ∃ x,E i x/\step (st s i)=some (.inr x))
  (he : ∀ s,R n s->step (st s n)=some (.inr (fin s))) (s0:S) (h0:R 0 s0):(∃ s,R n s/\iter step (st s0 0)=some (fin s)) \/ ∃ i x,i<n/\E i x/\iter step (st s0 0)=some x:=by
 have key : ∀ k i s,i+k=n->R i s->(∃ s',R n s'/\iter step (st s i)=some (fin s')) \/ ∃ j x,j<n/\E j x/\iter step (st s i)=some x:=by
  intro k
  induction k with
  | zero=>intro i s hi hR;obtain rfl:i=n:=by omega
          exact .inl ⟨s,hR,a1X (he s hR)⟩
  | succ k ih =>
    intro i s hi hR;rcases hs i s (by omega) hR with ⟨s',h1,h2⟩ | ⟨x,h1,h2⟩
    ·rw [a4o h2];exact ih (i+1) s' (by omega) h1
    exact .inr ⟨i,x,by omega,h1,a1X h2⟩
 exact key n 0 s0 (by omega) h0
theorem a3C {S T X:Type} {step:T->Option (T⊕X)} (n:Nat) (st:S->Nat->T) (R:Nat->S->Prop) (fin:S->X)
  (hs : ∀ i s,i<n->R i s -> ∃ s',R (i+1) s'/\step (st s i)=some (.inl (st s' (i+1))))
  (he : ∀ s,R n s->step (st s n)=some (.inr (fin s))) (s0:S) (h0:R 0 s0) : ∃ s,R n s/\iter step (st s0 0)=some (fin s):=by
 rcases a4d n st R (fun _ _=>False) fin (fun i s hi hR => .inl (hs i s hi hR)) he s0 h0 with h | ⟨_,_,_,h,_⟩
 ·exact h
 exact h.elim
theorem a9C {α β:Type} {l:List α} {f g:α->List β} (h : ∀ a∈l,f a=g a):l.flatMap f=l.flatMap g:=by
 induction l with
 | nil=>rfl
 | cons a l ih=>simp only [List.flatMap_cons,h a (by simp),ih (fun b hb=>h b (by simp [hb]))]
theorem a9D {α:Type} (p:α->Bool) : ∀ (l:List α) (s:Bool),l.foldl (fun s a=>s&&p a) s=(s&&l.all p)
 | [],s=>by simp
 | a::l,s=>by rw [List.foldl_cons,a9D p l];simp [Bool.and_assoc]
theorem a3D {τ:Type} {c:Cod τ} (l:List τ) (i:Nat) (a:τ):(enc c l).set i (c.en a)=enc c (l.set i a):=by
 simp [enc,List.map_set]
theorem b0C {τ:Type} {c:Cod τ} (n:Int) (a:τ):Ar.std.rep n (c.en a)=enc c (List.replicate n.toNat a):=by simp [enc]
theorem a0J {α:Type} {l:List α} {i:Nat} {a:α} (h:l[i]?=some a):l.take (i+1)=l.take i++[a]:=by
 rw [List.take_add_one,h];rfl
theorem a0G {i n:Nat} (h:i<n) (hn:n<9223372036854775808):IntKind.i64.wrap ((i:Int)+1)=((i+1:Nat):Int):=c4B h hn
theorem b2v {x:Int} (h0 : -9223372036854775807<=x) (h1:x<9223372036854775808):IntKind.i64.wrap (x-1)=x-1:=a8P _ (by omega) (by omega)
theorem b6b {α:Type} (l:List α) (p:α->Bool):(0<=((l.findIdx? p).elim (-1:Int) (fun i=>(i:Int))))↔l.any p=true:=by
 cases h:l.findIdx? p with
 | none =>
   rw [List.findIdx?_eq_none_iff] at h;simp;intro x hx;simpa using h x hx
 | some i =>
   simp;obtain ⟨hi,hp,_⟩:=List.findIdx?_eq_some_iff_getElem.1 h;exact ⟨_,zp6 hi,by simpa using hp⟩
theorem a1p {α:Type} (l:List α) (p:α->Bool):Sum.elim (fun _:Unit=>some (-1:Int)) (fun v:Int=>some v) ((l.findIdx? p).elim (.inl ()) (fun i => .inr (i:Int)))=some ((l.findIdx? p).elim (-1) (fun i=>(i:Int))):=by
 cases l.findIdx? p <;> rfl
theorem a2g {α:Type} (l:List α) (p:α->Bool):decide (0<=((l.findIdx? p).elim (-1:Int) (fun i=>(i:Int))))=l.any p:=by
 rw [Bool.eq_iff_iff,decide_eq_true_iff];exact b6b l p
theorem a1d {α:Type} (l:List α) (p:α->Bool):(l.any fun a => !p a) = !l.all p:=by
 induction l with
 | nil=>rfl
 | cons a l ih=>simp [ih]
theorem b4n {α:Type} (l:List α) (p q:α->Bool):(l.any fun a=>p a||q a)=(l.any p||l.any q):=by
 induction l with
 | nil=>rfl
 | cons a l ih=>simp only [List.any_cons,ih];cases p a <;> cases q a <;> cases l.any p <;> cases l.any q <;> rfl
theorem b6c {α:Type} (l:List α) (b:Bool) (p:α->Bool):(l.any fun a=>b&&p a)=(b&&l.any p):=by
 cases b
 ·simp
 simp
theorem a5a {α:Type} {l:List α} {p q:α->Bool} (h : ∀ a∈l,p a=q a):l.any p=l.any q:=by
 induction l with
 | nil=>rfl
 | cons a l ih=>simp only [List.any_cons,h a (by simp),ih (fun b hb=>h b (by simp [hb]))]
@[simp] theorem c2T (c:Bool):(bif c then true else false)=c:=by cases c <;> rfl
@[simp] theorem c2U (c:Bool):(bif c then false else true) = !c:=by cases c <;> rfl
@[simp] theorem a6R (a b:Bool):(bif a then b else false)=(a&&b):=by cases a <;> rfl
@[simp] theorem c0Q (a b:Bool):(bif a then true else b)=(a||b):=by cases a <;> rfl
@[simp] theorem b1q (a b:Bool):(bif a then false else b)=(!a&&b):=by cases a <;> rfl
@[simp] theorem c2V (a b:Bool):(bif a then b else true)=(!a||b):=by cases a <;> rfl
@[simp] theorem c0R {α β γ:Type} (c:Bool) (a:α) (b:β) (f:α->γ) (g:β->γ):Sum.elim f g (bif c then .inl a else .inr b)=bif c then f a else g b:=by cases c <;> rfl
@[simp] theorem c0S {α β γ:Type} (c:Bool) (a:α) (b:β) (f:α->γ) (g:β->γ):Sum.elim f g (bif c then .inr b else .inl a)=bif c then g b else f a:=by cases c <;> rfl
end Go.Am
