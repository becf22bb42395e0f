import Derived.Test.YtlljehkmemajkaaAmSteps
import Derived.RangeFuncRecord
import Derived.CallsIn
import Derived.Lib.BitFns
set_option linter.unusedSimpArgs false
set_option linter.unusedSectionVars false
namespace Go.Am
open Go
theorem RepV.fewer {G:Gh} {w:World} {k:Nat} {ℓ:Loc} {av:AV} {v:Value} (h:RepV G w ℓ av v):av.inb k=true->RepV { G with nh:=k } w ℓ av v:=by
 have tail : ∀ {ℓ:Loc} {k':Nat} {v:Value},b0U G w ℓ k' v->b0U { G with nh:=k } w ℓ k' v:=fun h=>h
 induction h with
 | undef ℓ v=>exact fun _ => .undef ℓ v
 | abool ℓ b=>exact fun _ => .abool ℓ b
 | d ℓ x v h=>exact fun _ => .d ℓ x v h
 | ptr ℓ a off ha=>intro hb;simp [AV.inb] at hb;exact RepV.ptr (G:={ G with nh:=k }) ℓ a off hb
 | nilptr ℓ=>exact fun _ => .nilptr ℓ
 | iptr ℓ cs b off vs hK h1 h=>exact fun _ => .iptr ℓ cs b off vs hK h1 h
 | own ℓ k l v h ht=>exact fun _ => .own ℓ k l v h (tail ht)
 | lim ℓ k l v h ht=>exact fun _ => .lim ℓ k l v h ht
 | tail ℓ k l v h ht=>exact fun _ => .tail ℓ k l v h ht
 | func ℓ f as bs va vb ha hb _ _ hc hc' ih ih' =>
   intro hbl;simp [AV.inb] at hbl;exact .func ℓ f as bs va vb ha hb (fun i hi=>ih i hi (a0Z hbl.1 i hi)) (fun i hi=>ih' i hi (a0Z hbl.2 i hi)) hc hc'
 | nilfunc ℓ=>exact fun _ => .nilfunc ℓ
 | yield ℓ l hl=>intro hb;simp [AV.inb] at hb;exact RepV.yield (G:={ G with nh:=k }) ℓ l hb
 | map ℓ a ha=>intro hb;simp [AV.inb] at hb;exact RepV.map (G:={ G with nh:=k }) ℓ a hb
 | nilmap ℓ=>exact fun _ => .nilmap ℓ
 | lbox t cs vs e hO hw hs _ hc ih =>
   intro hbl;simp [AV.inb] at hbl;exact RepV.lbox (G:={ G with nh:=k }) t cs vs e hO hw hs (fun j hj=>ih j hj (a0Z hbl j hj)) hc
 | place ℓ r off=>exact fun _=>RepV.place (G:={ G with nh:=k }) ℓ r off
 | mref ℓ a k' lo n b off cap ha h1 h2 h3 h4=>intro hb;simp [AV.inb] at hb;exact RepV.mref (G:={ G with nh:=k }) ℓ a k' lo n b off cap hb h1 h2 h3 h4
 | mcap ℓ a k' lo n c b off cap ha h1 h2 h3 h4 h5=>intro hb;simp [AV.inb] at hb;exact RepV.mcap (G:={ G with nh:=k }) ℓ a k' lo n c b off cap hb h1 h2 h3 h4 h5
 | gref ℓ a k' p ha hc hq=>intro hb;simp [AV.inb] at hb;exact RepV.gref (G:={ G with nh:=k }) ℓ a k' p hb hc hq
 | fresh ℓ k l v h=>exact fun _ => .fresh ℓ k l v h
 | junk ℓ v h=>exact fun _ => .junk ℓ v h
 | eptr ℓ a k' i j ha hi=>intro hb;simp [AV.inb] at hb;exact RepV.eptr (G:={ G with nh:=k }) ℓ a k' i j hb hi
 | vptr ℓ a k' i j m z ha hi hz hm=>intro hb;simp [AV.inb] at hb;exact RepV.vptr (G:={ G with nh:=k }) ℓ a k' i j m z hb hi hz hm
 | agg ℓ cs vs hs _ hc hf ih =>
   intro hbl;simp [AV.inb] at hbl;exact .agg ℓ cs vs hs (fun i hi=>ih i hi (a0Z hbl i hi)) hc hf
 | tuple ℓ cs vs hs _ hc ih =>
   intro hbl;simp [AV.inb] at hbl;exact .tuple ℓ cs vs hs (fun i hi=>ih i hi (a0Z hbl i hi)) hc
theorem RelH.fewer {G:Gh} {H:List Obj} {w:World} (R:RelH G H w) {k:Nat} (hk:k<=H.length) (hb:a0v k (H.take k)=true):RelH { G with nh:=k } (H.take k) w:=by
 have hsub:Sub G { G with nh:=k } w w (fun _=>True) k:=⟨KLe.refl _,fun b ℓ f _ hO=>⟨hO,rfl⟩,fun _ _=>rfl,Nat.le_refl _⟩
 refine ⟨⟨R.sane.no⟩,by simp;omega,fun i ob hob => ?_,R.kept,R.disj⟩;have hi:i<k:=by have:=(zp2.1 hob).1;simp at this;omega
 rw [List.getElem?_take_of_lt hi] at hob;exact (R.objs i ob hob).sub R.sane hi hsub trivial (fun _=>trivial) (a2H hb i ob (by rw [List.getElem?_take_of_lt hi];exact hob))
def St.fit (σ:St) (ts:List Nat) (k:Nat):St:={ σ with env:=a8e σ.env ts,heap:=σ.heap.take k }
def St.fits (σ:St) (ts:List Nat) (k:Nat):Bool:=Nat.ble k σ.heap.length&&a4n k ((a8e σ.env ts).map (·.2))&&a0v k (σ.heap.take k)
theorem Rel.fit {G:Gh} {σ:St} {a:Act} {w:World} (R:Rel G σ a w) {ts:List Nat} {k:Nat} (h:σ.fits ts k=true):Rel { G with nh:=k } (σ.fit ts k) a w:=by
 simp only [St.fits,zp4,Nat.ble_eq] at h;obtain ⟨⟨h1,h2⟩,h3⟩:=h;have R':=R.keep ts;exact ⟨R.h.fewer h1 h3,R'.size,fun t=>(R'.slots t).fewer (a5n h2 t),R'.places,R'.df⟩
theorem Ext.nh {m:Nat} {G G':Gh} {w w':World} (h:Ext m G w G' w') (k:Nat):Ext m G w { G' with nh:=k } w':=⟨h.K,h.new,h.others,h.size,h.β,h.io⟩
section
variable {P:Program} {T:a0j} {m:Nat} {Q:Exit->St->Prop} {σ:St} {c:Code}
theorem AWp.fit (ts:List Nat) (k:Nat) (hm:m<=k) (hf:σ.fits ts k=true) (h:AWp P m c Q (σ.fit ts k)):AWp P m c Q σ:=by
 intro r n G a w hm' R;refine wpIn_mono (h r n _ a w hm (R.fit hf)) ?_;rintro e a' w' ⟨σ',G',R',hE,hm'',hQ⟩;exact ⟨σ',G',R',⟨hE.K,hE.new,hE.others,hE.size,hE.β,hE.io⟩,hm'',hQ⟩
theorem AWp.cut {x y:Code} (R:St->Prop) (h:AWp P m x (AExit.then R Q) σ) (k : ∀ σ',R σ'->AWp P m y Q σ'):AWp P m (.seq x y) Q σ:=by
 refine AWp.seq (AWp.mono h ?_);intro e σ' hq;cases e with
 | normal=>exact k σ' hq
 | _=>exact hq
end
section
variable {P:Program} {T:a0j} {m i:Nat} {ops:Array Oper} {σ:St} {o:Oper} {an:Ann}
theorem a6s {H:List Obj} : ∀ {τ:List Obj},(∀ a,a<H.length->τ[a]?=H[a]?) -> ∃ rest,τ=H++rest:=by
 induction H with
 | nil=>intro τ _;exact ⟨τ,rfl⟩
 | cons x H ih =>
   intro τ h;cases τ with
   | nil=>have:=h 0 (by simp);simp at this
   | cons y τ =>
     have h0:=h 0 (by simp);simp at h0;subst h0;obtain ⟨rest,rfl⟩:=ih (τ:=τ) (fun a ha=>by have:=h (a+1) (by simp;omega);simpa using this);exact ⟨rest,rfl⟩
theorem a1w.callL (hT:TOk P T) (ho:ops[i]?=some o) {f:FuncId} {args:List AV} {r:AV} {H rest H':List Obj} {d:Nat} (hw:a1Q ops.toList σ o=some true) (hcall:a2c T σ o=some (f,args)) (hH:σ.heap=H++rest)
  (hl:H'.length=H.length) (hin:a0v H.length H=true)
  (hargs:a4n H.length args=true) (hd:o.dst=some d) (hlt:d<σ.n) (hb:(σ.get d).isBox=false) (hfr:args.all AV.free=true) (hc:a0n P f args H r H') :
  a1w P m ops i σ { sets:=[(d,r)],heap:=none,rd:=a0o ops.toList o,hr:=false,ho:=List.range H.length,low:=H' }:=by
 intro τ hrd _ hho hn hm;obtain ⟨rest',hheap⟩ : ∃ rest',τ.heap=H++rest':=a6s (fun a ha=>by
  rw [hho a (List.mem_range.2 ha),hH,zp7 ha])
 have happ:a2q H' τ.heap=H'++rest':=by unfold a2q;rw [hheap,hl,List.drop_left]
 obtain ⟨hcb,hrl,hri,hin',hHH,hcc⟩:=hc;refine ⟨by rw [a1s];exact a8g _ _,fun rr n G a w Q' K R hK => ?_⟩;have hdm:d∈a0o ops.toList o:=by simp [a0o,hd]
 have hbτ:(τ.get d).isBox=false:=by rw [hrd d hdm];exact hb
 unfold wpOpIn;simp only [ho];rw [if_pos (a2m (b:=true) (by rw [a3i (σ:=σ) hrd];exact hw) R)];obtain ⟨hnd,vs,hrun,hvs,hrep⟩:=a5s hT (by rw [a5w (σ:=σ) hrd];exact hcall) hcb R;have RH:RelH G (H++rest') w:=by rw [<-hheap];exact R.h
 have hRh:=RH.handed hin;have hfr' : ∀ c∈args,c.free=true:=by simpa using hfr
 have hsub:Sub G (G.handed H.length) w w (fun ℓ=>ℓ = .no) H.length :=
  ⟨KLe.refl _,fun b ℓ f hl hO=>absurd (hl▸rfl) (R.h.sane.no b ℓ f hO),fun _ _=>rfl,Nat.le_refl _⟩
 refine ⟨fun _ _=>trivial,?_⟩;rw [Oper.semAt_eq _ _ _ hnd,hrun];refine ⟨fun hh=>by simp [Wd] at hh,?_⟩;refine CallsIn.mono (a4o (hcc (n-1) (G.handed H.length) w vs hvs (fun i hi => ?_) hRh (fun b ℓ f hO => ?_))) ?_
 ·exact (hrep i hi).sub R.h.sane hsub rfl (a0Z hargs i hi) (AV.free_isLocal (hfr' _ (zp6 hi)))
 ·have:=(a2G hO).2;cases ℓ <;> simp [a1i] at this
  ·rename_i i;exact ⟨i,rfl⟩
  rename_i i j;exact ⟨i,rfl⟩
 rintro e w' ⟨v,G3,rfl,hv,R3,hE⟩;obtain ⟨R',hext⟩:=R.back (H:=H) (rest:=rest') hheap (.inr hl) hHH R3 hE hin' hv hrl hri (by rw [hn];exact hlt) hbτ;show K (a.put o.dst v) w';rw [hd];refine hK _ _ w' ?_ (hext m (by rw [<-R.h.nh];exact hm));simpa [Rec.app,St.upd,a0r,happ] using R'
variable {K:St->Prop} {l:List Oper} {xs:List Rec}
theorem a1q.stepCallL (hT:TOk P T) {f:FuncId} {args:List AV} {o:Oper} {rest:List Oper} {σ1:St} {xs1:List Rec} {r:AV} {H Hr H':List Obj} {d:Nat} (hl:l=ops.toList.drop xs.length) (h : ∀ A:Ar,A=Ar.std->a7t A T an ops.toList l σ xs = .call f args o rest σ1 xs1)
  (hH:σ1.heap=H++Hr) (hr:H'.length=H.length) (hin:a0v H.length H=true) (hargs:a4n H.length args=true) (hd:o.dst=some d) (hlt:d<σ1.n) (hb:(σ1.get d).isBox=false) (hfr:args.all AV.free=true) (hc:a0n P f args H r H')
  (k:a1q P m ops rest (xs1++[{ sets:=[(d,r)],heap:=none,rd:=a0o ops.toList o,hr:=false,ho:=List.range H.length,low:=H' }]) K (σ1.upd [(d,r)] (some (H'++Hr)))):a1q P m ops l xs K σ :=
 a1q.run (an:=an) hT l xs σ hl (by
  rw [h _ rfl];exact fun hcall hw ho=>a1q.cons (a1w.callL hT ho hw hcall hH hr hin hargs hd hlt hb hfr hc) (by
   have:Rec.app σ1 { sets:=[(d,r)],heap:=none,rd:=a0o ops.toList o,hr:=false,ho:=List.range H.length,low:=H' }=σ1.upd [(d,r)] (some (H'++Hr)):=by
    simp only [Rec.app,St.upd,Option.getD_none,Option.getD_some,a2q,hH,hr,List.drop_left,a3P]
   rw [this];exact k))
end
set_option linter.unusedVariables false
def D.scalar:D->Bool
 | .int .. | .bool _ | .str _ | .iface _=>true
 | _=>false
theorem RepD.scalar {K K':Addr->Option Value} {x:D} {v:Value} (hs:x.scalar=true) (h:RepD K x v):RepD K' x v:=by
 cases h <;> first | (simp [D.scalar] at hs;done) | constructor
def scalars (l:List D):Bool:=l.all fun x=>x.cells.all D.scalar
theorem Rel.freeze {G:Gh} {σ:St} {a:Act} {w:World} (R:Rel G σ a w) {s i k:Nat} {lo n:Int} {l:List D} (hs:σ.get s = .mref i k lo n) (hi:σ.heap[i]?=some (.arr k l)) (hfit:lo+n<=l.length) :
  ∃ G',Rel G' { σ with env:=eset σ.env s (.d (.list k (Ar.std.sub l lo (lo+n)))),heap:=σ.heap.set i .dead } a w /\ ∀ m,Ext m G w G' w:=by
 have hrep:=R.slots s;rw [hs] at hrep;generalize hv:a.tmps.getD s Go.undef=v at hrep;cases hrep with | mref _ _ _ _ _ b off cap hnh hlo hn hcap hbo =>
 obtain ⟨vs,e,hO,hw,hu,hsz,h1,hh⟩:=R.h.objs i _ hi;have hil:i<σ.heap.length:=(zp2.1 hi).1;have hfl:=a0b hu;let B:=G.β (.o i);let G':Gh:={ G with K:=fun x=>if x.block=B/\x.spot=none/\x.off<(D.flat l).length then some (vs.getD x.off Go.undef) else G.K x,O:=fun x=>if x=B then none else G.O x }
 have hdisj:=R.h.disj _ _ _ hO;have hKle:KLe G.K G'.K:=by
  intro x v h;simp only [G'];rw [if_neg];exact h;rintro ⟨hb,hsp,_⟩;obtain ⟨xb,xo,xs⟩:=x;simp at hb hsp;subst hb hsp;rw [hdisj.2 xo (Nat.zero_le _)] at h;cases h
 have hOold : ∀ b' x f',x ≠ .o i->G.O b'=some (x,f')->G'.O b'=some (x,f'):=by
  intro b' x f' hx h;have:b'≠B:=by rintro rfl;rw [show G.O B=_ from hO] at h;simp at h;exact hx h.1.symm
  simp only [G'];rw [if_neg this];exact h
 have hpr:Pres G G' w w (fun x=>x ≠ .o i) :=
  ⟨hKle,fun b' x f' hx h=>⟨hOold b' x f' hx h,rfl⟩,fun _ _=>rfl,Nat.le_refl _⟩
 have hkept : ∀ x v,G'.K x=some v->w.cell? x=some v:=by
  intro x v h;simp only [G'] at h;split at h
  ·rename_i hc;obtain ⟨xb,xo,xs⟩:=x;obtain ⟨h1',h2',h3'⟩:=hc;simp at h1' h2' h3' h;subst h1' h2';rw [a0S hw (by omega)];simpa using h
  exact R.h.kept x v h
 obtain ⟨LO,rfl⟩:=zp9 hlo;obtain ⟨N,rfl⟩:=zp9 hn;have hsubl:Ar.std.sub l LO (LO+N)=(l.drop LO).take N:=by
  simp only [Ar.std];congr 1
  all_goals omega

 have hlist:RepD G'.K (.list k ((l.drop LO).take N)) (.slice (some ⟨b,off,none⟩) N cap):=by
  by_cases hN:N=0
  ·subst hN;simp only [List.take_zero];exact RepD.empty _ _ _ _ _
  obtain ⟨rfl,rfl⟩:=hbo (by omega);simp only [Int.toNat_natCast];have hus:=hu.sub LO N;have hln:((l.drop LO).take N).length=N:=by simp;omega
  have hfe:D.flat ((l.drop LO).take N)=((D.flat l).drop (LO*k)).take (N*k):=by
   rw [a0Q (fun x hx=>hu x (List.mem_of_mem_drop hx)),a1p hu]
  have hflN:=a0b hus;have hmul:LO*k+N*k<=l.length*k:=by rw [<-Nat.add_mul];exact Nat.mul_le_mul_right _ (by omega)
  have hgetj : ∀ (j:Nat) (hj:j<(D.flat ((l.drop LO).take N)).length),(D.flat ((l.drop LO).take N))[j]=(D.flat l)[LO*k+j]'(by rw [hflN,hln] at hj;omega):=by
   intro j hj;simp only [hfe,List.getElem_take,List.getElem_drop]
  have:=RepD.list (K:=G'.K) k ((l.drop LO).take N) (G.β (.o i)) (LO*k) cap (fun j=>vs.getD (LO*k+j) Go.undef) hus (by rw [hln];simpa using hcap)
   (fun j hj=>by
    rw [hflN,hln] at hj;have hjj:LO*k+j<(D.flat l).length:=by omega
    simp [G',B,hjj])
   (fun j hj=>by rw [hflN,hln] at hj;exact h1 _ (by omega))
   (fun j hj=>by
    rw [hgetj j hj];rw [hflN,hln] at hj;exact (hh _ (by omega)).mono hKle)
  rwa [hln] at this
 refine ⟨G',⟨⟨⟨fun b' x f' h => ?_⟩,by simpa [G'] using R.h.nh,fun i' ob hob => ?_,hkept,fun b' x f' h => ?_⟩,R.size,fun t => ?_,fun t r off' ht => ?_,?_⟩,fun m=>⟨hKle,fun x v h => ?_,fun b' hb h=>⟨rfl,?_⟩,Nat.le_refl _,fun _ _=>rfl,rfl,rfl,fun _ _=>rfl,rfl,Nat.le_refl _⟩⟩
 ·simp only [G'] at h;split at h
  ·cases h
  exact R.h.sane.no b' x f' h
 ·by_cases hii:i=i'
  ·subst hii;simp [List.getElem?_set_self hil] at hob;subst hob;trivial
  simp only at hob;rw [List.getElem?_set_ne hii] at hob;exact (R.h.objs i' ob hob).pres R.h.sane (by rw [<-R.h.nh];exact (zp2.1 hob).1) hpr (by simp;exact fun e=>hii e.symm) (by simp)
 ·simp only [G'] at h ⊢;split at h
  ·cases h
  rename_i hne;refine ⟨(R.h.disj b' x f' h).1,fun j hj => ?_⟩;rw [if_neg (by intro hc;exact hne hc.1)];exact (R.h.disj b' x f' h).2 j hj
 ·simp only [St.get,a0e];split
  ·rename_i e';subst e';rw [hv,hsubl];exact .d _ _ _ (by simpa using hlist)
  exact (R.slots t).pres R.h.sane hpr (by simp) (fun _ _ _=>rfl) (fun t' e' _=>⟨rfl,fun j=>by simp⟩)
 ·simp only [St.get,a0e] at ht ⊢;split at ht
  ·cases ht
  obtain ⟨cs,hcs⟩:=R.places t r off' ht;refine ⟨cs,?_⟩;split
  ·rename_i e';subst e';rw [show σ.get s = .lbox cs from hcs] at hs;cases hs
  exact hcs
 ·refine ⟨R.df.1,fun x hx => ?_⟩;obtain ⟨r0,h1,h2,h3⟩:=R.df.2 x hx;exact ⟨r0,h1,hOold _ _ _ (by simp) h2,h3⟩
 ·simp only [G'] at h;split at h
  ·rename_i hc;exact .inr (.inl ⟨_,by rw [hc.1];exact hO⟩)
  exact .inl h
 simp only [G'];split
 ·rfl
 exact h
def AV.placeOf (s:Nat):AV->Bool
 | .place r _=>r == s
 | _=>false
theorem noPlace {s:Nat} : ∀ {env:List (Nat×AV)},env.all (fun p => !p.2.placeOf s)=true -> ∀ t off,a1R env t ≠ .place s off
 | [],_,t,off=>by simp [a1R]
 | (u,v)::r,h,t,off=>by
   simp only [List.all_cons,zp4] at h;simp only [a1R];split
   ·rintro rfl;simp [AV.placeOf] at h
   exact noPlace h.2 t off
section
variable {P:Program} {m:Nat} {Q:Exit->St->Prop} {σ:St} {c:Code}
theorem AWp.freeze {s i k:Nat} {lo n:Int} {l l':List D} (hs:σ.get s = .mref i k lo n) (hi:σ.heap[i]?=some (.arr k l)) (hfit:lo+n<=l.length) (hl:Ar.std.sub l lo (lo+n)=l')
  (h:AWp P m c Q { σ with env:=eset σ.env s (.d (.list k l')),heap:=σ.heap.set i .dead }):AWp P m c Q σ:=by
 intro r n' G a w hm R;obtain ⟨G',R',hE⟩:=R.freeze hs hi hfit;rw [hl] at R';refine wpIn_mono (h r n' G' a w (by have h1:=R'.h.nh;have h2:=R.h.nh;simp at h1;omega) R') ?_;rintro e a' w' ⟨σ',G2,R2,hE2,hm2,hQ⟩;exact ⟨σ',G2,R2,(hE m).trans hE2,hm2,hQ⟩
theorem a1I.freeze {ops:Array Oper} {os:List Oper} {s i k:Nat} {lo n:Int} {l l':List D} (hs:σ.get s = .mref i k lo n) (hi:σ.heap[i]?=some (.arr k l)) (hfit:lo+n<=l.length) (hl:Ar.std.sub l lo (lo+n)=l')
  (h:a1I P m ops os Q { σ with env:=eset σ.env s (.d (.list k l')),heap:=σ.heap.set i .dead }):a1I P m ops os Q σ:=by
 intro r n' G a w Q' hm R hQ;obtain ⟨G',R',hE⟩:=R.freeze hs hi hfit;rw [hl] at R';refine h r n' G' a w Q' (by have h1:=R'.h.nh;have h2:=R.h.nh;simp at h1;omega) R' ?_;rintro e a' w' ⟨σ',G2,R2,hE2,hm2,hq⟩;exact hQ e a' w' ⟨σ',G2,R2,(hE m).trans hE2,hm2,hq⟩
end
def b7v (P:Program) (l:Nat) (args:List AV) (H:List Obj) (r:AV) (H':List Obj):Prop :=
 r.isLocal=false/\r.inb H'.length=true/\a0v H'.length H'=true/\H.length<=H'.length /\ ∀ (n:Nat) (G:Gh) (w:World) (vs:Array Value),vs.size=args.length->(∀ (i:Nat) (hi:i<args.length),RepV G w .no args[i] (vs.getD i Go.undef))->RelH G H w ->
  (∀ b ℓ f,G.O b=some (ℓ,f) -> ∃ i,ℓ.root = .o i) ->
  ∃ f tmps assign body,(Instr.yield (G.β (.o l)) vs).run P w = .ok (.round (G.β (.o l)) f tmps assign body) w /\
    RoundIn (Wd none) n P (G.β (.o l)) f tmps assign body w (fun e w' => ∃ v G',e = .returned v/\RepV G' w' .ret r v/\RelH G' H' w'/\Ext H.length G w G' w')
section
variable {P:Program} {T:a0j} {m:Nat} {Q:Exit->St->Prop} {σ:St} {ops:Array Oper} {o:Oper} {l:List Oper} {an:Ann}
end
section
variable {P:Program} {T:a0j} {m i:Nat} {ops:Array Oper} {σ:St} {o:Oper} {an:Ann}
variable {K:St->Prop} {l:List Oper} {xs:List Rec}
end
theorem a8W {G:Gh} {w:World} {b:Nat} {ℓ:Loc} (hO:G.O b=some (ℓ,0)) (ob:Go.Obj):Pres G G w (w.putObj b ob) (fun x=>x≠ℓ) :=
 ⟨KLe.refl _,fun b' x f hx h=>⟨h,World.putObj_heap_other (by rintro rfl;rw [hO] at h;simp at h;exact hx h.1.symm)⟩,fun _ _=>rfl,Nat.le_refl _⟩
theorem Ext.putObj {m:Nat} {G:Gh} {w:World} {b:Nat} {p:Loc×Nat} (hO:G.O b=some p) {r0:Loop} (hb:w.heap[b]?=some (.loop r0)) (r:Loop):Ext m G w G (w.putObj b (.loop r)) where
 K:=KLe.refl _
 new x v h := .inl h
 others b' _ h:=⟨World.putObj_heap_other (by rintro rfl;rw [hO] at h;cases h),h⟩
 size:=by simp
 β _ _:=rfl
 io:=by
  refine ⟨rfl,rfl,fun a _ => ?_,rfl,Nat.le_refl _⟩;unfold World.frozen?;by_cases h:a.block=b
  ·subst h;rw [hb,World.putObj_heap_same (Array.getElem?_eq_some_iff.1 hb).1]
  rw [World.putObj_heap_other h]
theorem a8X {G:Gh} {w:World} {b:Nat} {ℓ:Loc} (hk : ∀ x v,G.K x=some v->w.cell? x=some v) (hd : ∀ j,G.K ⟨b,j,none⟩=none) (hO:G.O b=some (ℓ,0)) (ob:Go.Obj) :
  ∀ x v,G.K x=some v->(w.putObj b ob).cell? x=some v:=by
 intro x v h;have hx:=hk x v h;have hne:x.block≠b:=by
  rintro rfl;have hspot:x.spot=none:=by
   unfold World.cell? at hx;split at hx
   ·split at hx
    ·cases hx
    rename_i hsp;simpa using hsp
   cases hx
  obtain ⟨b,j,s⟩:=x;simp at hspot;subst hspot;rw [hd j] at h;cases h
 unfold World.cell? at *
 rwa [World.putObj_heap_other hne]
theorem Rel.setLoop {G:Gh} {σ:St} {a:Act} {w:World} (R:Rel G σ a w) {i:Nat} {L:ALoop} (hi:σ.heap[i]?=some (.loop L)) :
  ∃ r:Loop,w.heap[G.β (.o i)]?=some (.loop r)/\r.state=L.st/\r.pending=L.pending/\r.params=L.params/\r.assign=L.assign/\r.body=L.body /\
    ∀ st p,Rel G { σ with heap:=σ.heap.set i (.loop { L with st:=st,pending:=p }) } a (w.putObj (G.β (.o i)) (.loop { r with state:=st,pending:=p })) /\
      ∀ m,Ext m G w G (w.putObj (G.β (.o i)) (.loop { r with state:=st,pending:=p })):=by
 obtain ⟨fn,tmps,D,hO,hw,hs,hh,hf⟩:=R.h.objs i _ hi;refine ⟨_,hw,rfl,rfl,rfl,rfl,rfl,fun st p=>⟨?_,fun m=>Ext.putObj hO hw _⟩⟩;have hpr:=a8W (w:=w) hO (.loop { state:=st,pending:=p,fn,tmps,params:=L.params,assign:=L.assign,body:=L.body,defers:=D });have hil:i<σ.heap.length:=(zp2.1 hi).1;refine ⟨⟨R.h.sane,by simpa using R.h.nh,fun i' ob hob => ?_,a8X R.h.kept (fun j=>(R.h.disj _ _ _ hO).2 j (Nat.zero_le _)) hO _,fun b ℓ f h => ?_⟩,R.size,?_,R.places,?_⟩
 ·by_cases hii:i=i'
  ·subst hii;simp only [List.getElem?_set_self hil] at hob;injection hob with hob;subst hob
   refine ⟨fn,tmps,D,hO,World.putObj_heap_same (R.h.disj _ _ _ hO).1,hs,fun t=>(hh t).pres R.h.sane (hpr.no R.h.sane) rfl (fun r off e=>absurd (hf t) (by rw [e];simp [AV.free])) (fun t e=>by cases e),hf⟩
  simp only [List.getElem?_set_ne hii] at hob;exact (R.h.objs i' ob hob).pres R.h.sane (by rw [<-R.h.nh];exact (zp2.1 hob).1) hpr (by simp;exact fun e=>hii e.symm) (by simp)
 ·have:=R.h.disj b ℓ f h;exact ⟨by simpa using this.1,this.2⟩
 ·intro t;exact (R.slots t).pres R.h.sane hpr (by simp) (fun _ _ _=>rfl) (fun t' e' _=>⟨rfl,fun j=>by simp⟩)
 refine ⟨R.df.1,fun x hx => ?_⟩;obtain ⟨r0,h1,h2,h3⟩:=R.df.2 x hx;exact ⟨r0,h1,h2,by rw [World.putObj_heap_other (by rintro rfl;rw [hO] at h2;cases h2)];exact h3⟩
def b2l (y:Nat) (L:ALoop) (b:Bool) (H':List Obj):Exit->St->Prop
 | .normal,σ=>b=true/\σ.heap[y]?=some (.loop { L with st := .busy }) /\ ∃ junk,σ.heap.set y (.loop { L with st := .ready,pending:=none })=H'++junk
 | .ret,σ=>b=false/\σ.heap[y]?=some (.loop { L with st := .busy }) /\ ∃ junk,σ.heap.set y (.loop { L with st := .done,pending:=some .ret })=H'++junk
 | .exit id,σ=>b=false/\σ.heap[y]?=some (.loop { L with st := .busy }) /\ ∃ junk,σ.heap.set y (.loop { L with st := .done,pending:=some (.exit id) })=H'++junk
 | _,_=>False
theorem a5z {G:Gh} {w:World} : ∀ (ps:List Tmp) (avs:List AV) (vs:List Value) (env:List (Nat×AV)) (tmps:Array Value),avs.length=ps.length->vs.length=ps.length->(∀ p∈ps,p<tmps.size) ->
  (∀ (i:Nat) (hi:i<avs.length),RepV G w .no avs[i] (vs.getD i Go.undef)/\avs[i].free=true)->(∀ t,RepV G w .no (a1R env t) (tmps.getD t Go.undef))->(∀ t,(a1R env t).free=true) ->
  ((ps.zip vs).foldl (fun tmps (p:Tmp×Value)=>tmps.setIfInBounds p.1 p.2) tmps).size=tmps.size /\
    (∀ t,RepV G w .no (a1R (a0r env (ps.zip avs)) t) (((ps.zip vs).foldl (fun tmps (p:Tmp×Value)=>tmps.setIfInBounds p.1 p.2) tmps).getD t Go.undef)) /\ ∀ t,(a1R (a0r env (ps.zip avs)) t).free=true
 | [],avs,vs,env,tmps,h1,h2,_,_,h5,h6=>⟨rfl,h5,h6⟩
 | p::ps,[],_,_,_,h1,_,_,_,_,_=>by simp at h1
 | p::ps,_::_,[],_,_,_,h2,_,_,_,_=>by simp at h2
 | p::ps,c::avs,v::vs,env,tmps,h1,h2,h3,h4,h5,h6=>by
   have hp:p<tmps.size:=h3 p (by simp);have h0:=h4 0 (by simp);simp at h0;obtain ⟨k1,k2,k3⟩:=a5z ps avs vs (eset env p c) (tmps.setIfInBounds p v) (by simpa using h1) (by simpa using h2) (fun q hq=>by simpa using h3 q (by simp [hq])) (fun i hi=>h4 (i+1) (by simpa using hi))
    (fun t=>by
     rw [a0e,a1b _ _ _ _ hp];split
     ·exact h0.1
     ·exact h5 t) (fun t=>by
     rw [a0e];split
     ·exact h0.2
     exact h6 t)
   exact ⟨by simpa using k1,k2,k3⟩
theorem b7v.mk {P:Program} {y:Nat} {L:ALoop} {args:List AV} {H H':List Obj} {b:Bool} (hy:H[y]?=some (.loop L)) (hst:L.st = .ready) (hsz:args.length=L.params.size) (hps:L.params.toList.all (fun p=>decide (p<L.n))=true)
  (hfr:args.all AV.free=true) (hin:a0v H'.length H'=true) (hHH:H.length<=H'.length)
  (h:AWp P H.length L.assign (fun e σ1=>e = .normal/\σ1.heap[y]?=some (.loop L)/\AWp P H.length L.body (b2l y L b H') { σ1 with heap:=σ1.heap.set y (.loop { L with st := .busy }) })
   { env:=a0r L.env (L.params.toList.zip args),heap:=H,n:=L.n }):b7v P y args H (.d (.bool b)) H':=by
 refine ⟨rfl,rfl,hin,hHH,?_⟩;intro n G w vs hvs hrep RH hO;obtain ⟨fn,tmps,D,hOl,hw,hs,hh,hf⟩:=RH.objs y _ hy;have hfr' : ∀ c∈args,c.free=true:=by simpa using hfr
 have hyl:y<H.length:=(zp2.1 hy).1;obtain ⟨k1,k2,k3⟩:=a5z (G:=G) (w:=w) L.params.toList args vs.toList L.env tmps (by simpa using hsz) (by simp;omega) (fun p hp=>by rw [hs];simpa using List.all_eq_true.1 hps p hp)
  (fun i hi=>⟨by simpa [List.getD,zp5] using hrep i hi,hfr' _ (zp6 hi)⟩) hh hf
 have hyield:=run_yield (P:=P) (args:=vs) hw (by simp [hvs,hsz]);refine ⟨fn,_,L.assign,L.body,hyield,?_⟩;have hfold:((L.params.zip vs).foldl (fun tmps (x:Tmp×Value)=>match x with | (t,a)=>tmps.setIfInBounds t a) tmps)=(L.params.toList.zip vs.toList).foldl (fun tmps (p:Tmp×Value)=>tmps.setIfInBounds p.1 p.2) tmps:=by
  rw [<-Array.foldl_toList];simp
 have R:Rel G { env:=a0r L.env (L.params.toList.zip args),heap:=H,n:=L.n } { tmps:=(L.params.toList.zip vs.toList).foldl (fun tmps (p:Tmp×Value)=>tmps.setIfInBounds p.1 p.2) tmps,defers:=[] } w:=by
  refine ⟨RH,by rw [k1,hs],fun t=>(k2 t).anywhere (k3 t) _,fun t r off ht => ?_,⟨by simp,fun d hd=>by simp at hd⟩⟩;have:=k3 t;simp only [St.get] at ht;rw [ht] at this;simp [AV.free] at this
 refine roundIn_of_wpIn (by trivial) ?_;rw [hfold];refine wpIn_mono (h (some (G.β (.o y))) n G _ w (by rw [RH.nh];exact Nat.le_refl _) R) ?_;rintro e a1 w1 ⟨σ1,G1,R1,hE1,hm1,rfl,hy1,hbody⟩;have hβ1:G1.β (.o y)=G.β (.o y):=hE1.β y hyl;obtain ⟨r1,e1,e2,e3,e4,e5,e6,hset⟩:=R1.setLoop hy1;rw [hβ1] at e1 hset;obtain ⟨R2,hE2⟩:=hset .busy L.pending;refine ⟨_,run_beginRound e1 (by rw [e2,hst]),?_⟩;have hL:({ L with st := .busy,pending:=L.pending }:ALoop)={ L with st := .busy }:=rfl
 have hr1:({ r1 with state := .busy }:Loop)={ r1 with state := .busy,pending:=L.pending }:=by rw [<-e3]
 rw [hr1];refine wpIn_mono (hbody (some (G.β (.o y))) n G1 a1 _ hm1 R2) ?_;have hE12:=hE1.trans (hE2 H.length)

 have fin : ∀ (jump:Option Code) (σ3:St) (G3:Gh) (a3:Act) (w3:World),Rel G3 σ3 a3 w3->Ext H.length G1 (w1.putObj (G.β (.o y)) (.loop { r1 with state := .busy,pending:=L.pending })) G3 w3->H.length<=G3.nh ->
   b=jump.isNone->σ3.heap[y]?=some (.loop { L with st := .busy })->(∃ junk,σ3.heap.set y (.loop { L with st:=if jump.isNone then .ready else .done,pending:=jump })=H'++junk) ->
   ∃ v w',(Instr.endRound (G.β (.o y)) jump).run P w3 = .ok v w' /\ ∃ v' G',Ending.returned v = .returned v'/\RepV G' w' .ret (.d (.bool b)) v'/\RelH G' H' w'/\Ext H.length G w G' w':=by
  intro jump σ3 G3 a3 w3 R3 hE3 hm3 hb hy3 ⟨junk,hjunk⟩;have hβ3:G3.β (.o y)=G.β (.o y):=(hE3.β y hyl).trans hβ1;obtain ⟨r3,f1,f2,f3,f4,f5,f6,hset3⟩:=R3.setLoop hy3;rw [hβ3] at f1 hset3;obtain ⟨R4,hE4⟩:=hset3 (if jump.isNone then .ready else .done) jump
  refine ⟨_,_,run_endRound jump f1,_,{ G3 with nh:=H'.length },rfl,?_,?_,?_⟩
  ·rw [hb];exact .d _ _ _ (.bool _)
  ·have hle:H'.length<=(σ3.heap.set y (.loop { L with st:=if jump.isNone then .ready else .done,pending:=jump })).length:=by rw [hjunk];simp
   have htake:(σ3.heap.set y (.loop { L with st:=if jump.isNone then .ready else .done,pending:=jump })).take H'.length=H':=by rw [hjunk];simp
   have:=R4.h.fewer (k:=H'.length) hle (by rw [htake];exact hin);rw [htake] at this;exact this
  exact ((hE12.trans hE3).trans (hE4 H.length)).nh _
 rintro e a3 w3 ⟨σ3,G3,R3,hE3,hm3,hq⟩;cases e with
 | normal =>
   obtain ⟨hb,h1,h2⟩:=hq;obtain ⟨v,w',h3,h4⟩:=fin none σ3 G3 a3 w3 R3 hE3 hm3 hb h1 h2;exact ⟨v,w',h3,h4⟩
 | ret =>
   obtain ⟨hb,h1,h2⟩:=hq;obtain ⟨v,w',h3,h4⟩:=fin (some .ret) σ3 G3 a3 w3 R3 hE3 hm3 hb h1 h2;exact ⟨v,w',h3,h4⟩
 | exit id =>
   obtain ⟨hb,h1,h2⟩:=hq;obtain ⟨v,w',h3,h4⟩:=fin (some (.exit id)) σ3 G3 a3 w3 R3 hE3 hm3 hb h1 h2;exact ⟨v,w',h3,h4⟩
 | goto l=>exact hq.elim
 | panic c=>exact hq.elim
 | outgrown=>exact hq.elim
theorem a8l {P:Program} {f:FuncId} (hc:callable P f=true) (args:Array Value) (w:World):(callFunc f args).run P w = .ok (.enter f args) w:=by
 unfold callable at hc;unfold callFunc;simp only [Sem.run_bind,run_program,Result.andThen_ok];split at hc
 ·rename_i fn hfn';simp at hc;rw [hfn'];simp [hc.1,Option.isSome_iff_ne_none.1 hc.2]
 cases hc
def St.laid (σ:St) (ts:List Nat) (ps:Array Tmp) (assign body:Code):ALoop :=
 { st := .ready,pending:=none,env:=ts.map (fun t=>(t,(σ.get t).copy)),n:=σ.n,params:=ps,assign:=assign,body:=body }
theorem a0a {α β:Type} {o:Option α} {f:α->Option β} {r:β} (h:o.bind f=some r) : ∃ v,o=some v/\f v=some r:=by
 cases o with
 | none=>cases h
 | some v=>exact ⟨v,rfl,h⟩
theorem cT {α:Type} {c:Bool} {x y r:α} (e:c=true) (h:cond c x y=r):x=r:=by subst e;exact h
theorem cF {α:Type} {c:Bool} {x y r:α} (e:c=false) (h:cond c x y=r):y=r:=by subst e;exact h
theorem eL {α β γ:Type} {f:α->γ} {g:β->γ} {v:α} {r:γ} (h:Sum.elim f g (.inl v)=r):f v=r:=h
theorem eR {α β γ:Type} {f:α->γ} {g:β->γ} {v:β} {r:γ} (h:Sum.elim f g (.inr v)=r):g v=r:=h
theorem soI {α:Type} {x y:α} (h:some x=some y):x=y:=Option.some.inj h
structure Cod (τ:Type) where
 un:D->Option τ
 en:τ->D
 ok : ∀ x v,un x=some v->x=en v
 ko : ∀ v,un (en v)=some v
def cI (k:IntKind):Cod Int where
 un | .int k' n=>if k'=k then some n else none
    | _=>none
 en n := .int k n
 ok x v h:=by
  cases x <;> simp at h;obtain ⟨rfl,rfl⟩:=h;rfl
 ko v:=by simp
def cB:Cod Bool where
 un | .bool b=>some b
    | _=>none
 en b := .bool b
 ok x v h:=by cases x <;> simp at h;subst h;rfl
 ko v:=rfl
def cS:Cod ByteArray where
 un | .str b=>some b
    | _=>none
 en b := .str b
 ok x v h:=by cases x <;> simp at h;subst h;rfl
 ko v:=rfl
def cL (k:Nat):Cod (List D) where
 un | .list k' l=>if k'=k then some l else none
    | _=>none
 en l := .list k l
 ok x v h:=by
  cases x <;> simp at h;obtain ⟨rfl,rfl⟩:=h;rfl
 ko v:=by simp
structure CodL (τ:Type) where
 un:List D->Option τ
 en:τ->List D
 ok : ∀ x v,un x=some v->x=en v
 ko : ∀ v,un (en v)=some v
def l1 {τ:Type} (c:Cod τ):CodL τ where
 un | [x]=>c.un x
    | _=>none
 en v:=[c.en v]
 ok x v h:=by
  match x,h with
  | [y],h=>rw [c.ok y v h]
 ko v:=c.ko v
def lc {τ ρ:Type} (c:Cod τ) (d:CodL ρ):CodL (τ×ρ) where
 un | x::r=>(c.un x).bind fun a=>(d.un r).map fun b=>(a,b)
    | []=>none
 en v:=c.en v.1::d.en v.2
 ok x v h:=by
  match x,h with
  | y::r,h =>
    obtain ⟨a,h1,h⟩:=a0a h;simp only [Option.map_eq_some_iff] at h;obtain ⟨b,h2,rfl⟩:=h;rw [c.ok y a h1,d.ok r b h2]
 ko v:=by simp [c.ko,d.ko]
def cG {τ:Type} (d:CodL τ):Cod τ where
 un | .agg l=>d.un l
    | _=>none
 en v := .agg (d.en v)
 ok x v h:=by
  cases x <;> simp at h;rw [d.ok _ v h]
 ko v:=d.ko v
def cA:Cod (List D) where
 un | .agg l=>some l
    | _=>none
 en l := .agg l
 ok x v h:=by
  cases x <;> simp at h;subst h;rfl
 ko v:=rfl
theorem b5W {T:a0j} {σ:St} {own:Bool} {t ty i k:Nat} {l:List D} {td:TD} (h1:σ.get t = .ptr i 0) (h2:σ.heap[i]?=some (.arr k l)) (h3:T ty=some td) (h4:td.isAgg=true) (h5:l.length=td.size) (h6:l.all D.isOne=true) :
  a3O T σ own (.cell t ty)=some (.d (.agg l)):=by
 simp only [a3O,h1,h3,h2];rw [if_pos ⟨trivial,h4,h5,h6⟩]
theorem lnN {A:Ar} (hA:A=Ar.std) {l:List D} {n:Nat} (h:A.zeq (A.len l) (Int.ofNat n)=true):l.length=n:=by
 subst hA;simp [Ar.std] at h;omega
theorem onN {A:Ar} (hA:A=Ar.std) {l:List D} (h:A.ones l=true):l.all D.isOne=true:=by subst hA;exact h
theorem lnF {A:Ar} (hA:A=Ar.std) {l:List D} {n:Nat} (h:l.length=n):A.zeq (A.len l) (Int.ofNat n)=true:=by subst hA h;simp [Ar.std]
def ga (A:Ar) (l:List D) (p n:Int):Option (List D):=bif A.zle (A.zadd p n) (A.len l) then bif A.ones (A.sub l p (A.zadd p n)) then some (A.sub l p (A.zadd p n)) else none else none
theorem gaI {A:Ar} {l x:List D} {p n:Int} (h:ga A l p n=some x):A.zle (A.zadd p n) (A.len l)=true/\A.sub l p (A.zadd p n)=x/\A.ones x=true:=by
 unfold ga at h;cases h1:A.zle (A.zadd p n) (A.len l) <;> cases h2:A.ones (A.sub l p (A.zadd p n)) <;> simp [h1,h2] at h;subst h;exact ⟨rfl,rfl,h2⟩
def gd {τ:Type} (A:Ar) (c:CodL τ) (l:List D) (p n:Int):Option τ:=(ga A l p n).bind c.un
theorem gdI {τ:Type} {A:Ar} {c:CodL τ} {l:List D} {p n:Int} {v:τ} (h:gd A c l p n=some v):A.zle (A.zadd p n) (A.len l)=true/\A.sub l p (A.zadd p n)=c.en v/\A.ones (c.en v)=true:=by
 obtain ⟨x,h1,h2⟩:=a0a h;obtain ⟨q1,q2,q3⟩:=gaI h1;rw [c.ok _ _ h2] at q2 q3;exact ⟨q1,q2,q3⟩
def gc {τ:Type} (A:Ar) (c:Cod τ) (l:List D) (i:Nat):Option τ:=(A.lget l i).bind c.un
theorem gcI {τ:Type} {A:Ar} {c:Cod τ} {l:List D} {i:Nat} {v:τ} (h:gc A c l i=some v):A.lget l i=some (c.en v):=by
 obtain ⟨x,h1,h2⟩:=a0a h;rw [h1,c.ok x v h2]
@[irreducible] def fuel:Nat:=1000000
theorem tf (b:Bool):b=true\/b=false:=by cases b <;> simp
theorem lb {a b:Nat} (h:Nat.ble a b=true):a<=b:=Nat.le_of_ble_eq_true h
def jn {α ρ:Type} (k:α->Option ρ) (f:(α->Option ρ)->Option ρ):Option ρ:=f k
theorem jnI {α ρ:Type} {k:α->Option ρ} {f:(α->Option ρ)->Option ρ} {r:ρ} (h:jn k f=some r) : ∃ K:α->Option ρ,(∀ v,K v=some r->k v=some r)/\f K=some r:=⟨k,fun _ h=>h,h⟩
theorem a1m {α ρ:Type} {o:Option α} {f:α->Option ρ} {r:ρ} (h:o.bind f=some r) : ∃ x,o=some x /\ ∃ K:α->Option ρ,(∀ y,K y=some r->f y=some r)/\K x=some r:=by
 obtain ⟨x,h1,h2⟩:=a0a h;exact ⟨x,h1,f,fun _ h=>h,h2⟩
open Classical in
noncomputable def both {ρ:Type} (a b:Option ρ):Option ρ:=a.bind fun x=>b.bind fun y=>if x=y then some x else none
def gt {τ:Type} (A:Ar) (c:Cod τ) (l:List D) (i:Int):Option τ:=bif A.zle 0 i then (A.lget l (A.nat i)).bind c.un else none
theorem gtI {τ:Type} {A:Ar} {c:Cod τ} {l:List D} {i:Int} {v:τ} (h:gt A c l i=some v):A.zle 0 i=true/\A.lget l (A.nat i)=some (c.en v):=by
 unfold gt at h;cases h0:A.zle 0 i with
 | false=>rw [h0] at h;cases h
 | true =>
   rw [h0] at h;obtain ⟨x,h1,h2⟩:=a0a (cT rfl h);exact ⟨rfl,by rw [h1,c.ok x v h2]⟩
def sl (A:Ar) (l:List D) (lo hi:Int):Option (List D):=bif A.zle 0 lo then bif A.zle lo hi then bif A.zle hi (A.len l) then some (A.sub l lo hi) else none else none else none
theorem slI {A:Ar} {l y:List D} {lo hi:Int} (h:sl A l lo hi=some y):A.zle 0 lo=true/\A.zle lo hi=true/\A.zle hi (A.len l)=true/\A.sub l lo hi=y:=by
 unfold sl at h;cases h0:A.zle 0 lo <;> cases h1:A.zle lo hi <;> cases h2:A.zle hi (A.len l) <;> simp [h0,h1,h2] at h;exact ⟨rfl,rfl,rfl,h⟩
def ap (A:Ar) (l m:List D):Option (List D):=bif A.fits (A.zadd (A.len l) (A.len m)) then some (A.app l m) else none
theorem apI {A:Ar} {l m y:List D} (h:ap A l m=some y):A.fits (A.zadd (A.len l) (A.len m))=true/\A.app l m=y:=by
 unfold ap at h;cases h0:A.fits (A.zadd (A.len l) (A.len m)) <;> simp [h0] at h;exact ⟨rfl,h⟩
def ck (b:Bool):Option Unit:=bif b then some () else none
theorem ckI {b:Bool} {u:Unit} (h:ck b=some u):b=true:=by cases b <;> first | rfl | cases h
def nk (b:Bool):Option Unit:=bif b then none else some ()
theorem nkI {b:Bool} {u:Unit} (h:nk b=some u):b=false:=by cases b <;> first | rfl | cases h
def lk {τ:Type} (A:Ar) (c:Cod τ) (es:List (D×D)) (k:D):Option (Option τ):=(A.mget es k).elim (some none) (fun d=>(c.un d).map some)
theorem lkN {τ:Type} {A:Ar} {c:Cod τ} {es:List (D×D)} {k:D} (h:lk A c es k=some none):A.mget es k=none:=by
 unfold lk at h;cases hm:A.mget es k with
 | none=>rfl
 | some d =>
   rw [hm] at h;simp at h
theorem lkS {τ:Type} {A:Ar} {c:Cod τ} {es:List (D×D)} {k:D} {v:τ} (h:lk A c es k=some (some v)):A.mget es k=some (c.en v):=by
 unfold lk at h;cases hm:A.mget es k with
 | none=>rw [hm] at h;simp at h
 | some d =>
   rw [hm] at h;simp at h;rw [c.ok d v h]
def fz (A:Ar) (l:List D) (lo n:Int):Option (List D):=bif A.zle (A.zadd lo n) (A.len l) then some (A.sub l lo (A.zadd lo n)) else none
theorem fzI {A:Ar} (hA:A=Ar.std) {l l':List D} {lo n:Int} (h:fz A l lo n=some l'):lo+n<=l.length/\Ar.std.sub l lo (lo+n)=l':=by
 subst hA;unfold fz at h;cases h0:Ar.std.zle (Ar.std.zadd lo n) (Ar.std.len l) <;> simp [h0] at h;refine ⟨by simpa [Ar.std] using h0,h⟩
theorem neL {A:Ar} (hA:A=Ar.std) {l:List D} (h:A.zlt 0 (A.len l)=true):l≠[]:=by
 subst hA;rintro rfl;simp [Ar.std] at h
theorem c0B {A:Ar} (hA:A=Ar.std) {l:List D}:(l.length:Int)=A.len l:=by subst hA;rfl
def AV.soft:AV->AV
 | .own k l => .d (.list k l)
 | .lim k l => .d (.list k l)
 | .tail k l => .d (.list k l)
 | v=>v
def AV.loose:AV->AV
 | .own k l => .tail k l
 | v=>v
def b0E (sf:List Nat):List (Nat×AV)->List (Nat×AV)
 | []=>[]
 | (t,v)::r=>(t,if sf.contains t then v.soft else if sf.contains (t+1000000) then v.loose else v)::b0E sf r
theorem a4s (sf:List Nat) : ∀ (e:List (Nat×AV)) (t:Nat),a1R (b0E sf e) t=if sf.contains t then (a1R e t).soft else if sf.contains (t+1000000) then (a1R e t).loose else a1R e t
 | [],t=>by simp only [b0E,a1R];split <;> (try split) <;> rfl
 | (s,v)::r,t=>by
   simp only [b0E,a1R];by_cases h:s=t
   ·subst h;simp
   simp only [if_neg h];exact a4s sf r t
theorem Rel.soft {G:Gh} {σ:St} {a:Act} {w:World} (R:Rel G σ a w) (sf:List Nat):Rel G { σ with env:=b0E sf σ.env } a w:=by
 refine ⟨R.h,R.size,fun t => ?_,fun t r off ht => ?_,R.df⟩
 ·have:=R.slots t;simp only [St.get,a4s] at this ⊢;split
  ·generalize a1R σ.env t=c at this;cases c <;> first | exact this | skip
   ·cases this with | own _ _ _ _ h _=>exact .d _ _ _ h
   ·cases this with | lim _ _ _ _ h _=>exact .d _ _ _ h
   cases this with | tail _ _ _ _ h _=>exact .d _ _ _ h
  split
  ·generalize a1R σ.env t=c at this;cases c <;> first | exact this | skip
   exact (a1B (z:=false)).2 ((a1B (z:=true)).1 this |>.imp id a2U.weak)
  exact this
 simp only [St.get,a4s] at ht ⊢;have h1:a1R σ.env t = .place r off:=by
  split at ht
  ·generalize a1R σ.env t=c at ht;cases c <;> first | exact ht | (simp [AV.soft] at ht)
  split at ht
  ·generalize a1R σ.env t=c at ht;cases c <;> first | exact ht | (simp [AV.loose] at ht)
  exact ht
 obtain ⟨cs,h2⟩:=R.places t r off h1;simp only [St.get] at h2;rw [h2];exact ⟨cs,by split <;> (try split) <;> rfl⟩
def St.fitS (σ:St) (ts sf:List Nat) (k:Nat):St:={ σ with env:=b0E sf (a8e σ.env ts),heap:=σ.heap.take k }
theorem Rel.fitS {G:Gh} {σ:St} {a:Act} {w:World} (R:Rel G σ a w) {ts:List Nat} (sf:List Nat) {k:Nat} (h:σ.fits ts k=true):Rel { G with nh:=k } (σ.fitS ts sf k) a w :=
 (R.fit h).soft sf
def AExit.onN (ts sf:List Nat) (k:Nat) (R:St->Prop) (Q:Exit->St->Prop):Exit->St->Prop
 | .normal,σ=>σ.fits ts k=true/\R (σ.fitS ts sf k)
 | e,σ=>Q e σ
def AExit.onX (j:Nat) (ts sf:List Nat) (k:Nat) (R:St->Prop) (Q:Exit->St->Prop):Exit->St->Prop
 | .exit i,σ=>if i=j then σ.fits ts k=true/\R (σ.fitS ts sf k) else Q (.exit i) σ
 | e,σ=>Q e σ
section
variable {P:Program} {m:Nat} {Q:Exit->St->Prop} {σ:St} {c:Code} {R:St->Prop} {ts sf:List Nat} {k:Nat}
theorem AWp.fitR (ts sf:List Nat) (k:Nat) (hm:m<=k) (hf:σ.fits ts k=true) (h:AWp P m c Q (σ.fitS ts sf k)):AWp P m c Q σ:=by
 intro r n G a w hm' R;refine wpIn_mono (h r n _ a w hm (R.fitS sf hf)) ?_;rintro e a' w' ⟨σ',G',R',hE,hm'',hQ⟩;exact ⟨σ',G',R',⟨hE.K,hE.new,hE.others,hE.size,hE.β,hE.io⟩,hm'',hQ⟩
theorem AWp.cutN (ts sf:List Nat) (k:Nat) (hm:m<=k) (R:St->Prop) (h:AWp P m c (AExit.onN ts sf k R Q) σ) (h2 : ∀ τ,R τ->Q .normal τ):AWp P m c Q σ:=by
 intro r n G a w hm' R0;refine wpIn_mono (h r n G a w hm' R0) ?_;rintro e a' w' ⟨σ',G',R',hE,hm'',hQ⟩;cases e with
 | normal=>exact ⟨_,_,R'.fitS sf hQ.1,hE.nh k,hm,h2 _ hQ.2⟩
 | _=>exact ⟨σ',G',R',hE,hm'',hQ⟩
theorem AWp.cutX (j:Nat) (ts sf:List Nat) (k:Nat) (hm:m<=k) (R:St->Prop) (h:AWp P m c (AExit.onX j ts sf k R Q) σ) (h2 : ∀ τ,R τ->Q (.exit j) τ):AWp P m c Q σ:=by
 intro r n G a w hm' R0;refine wpIn_mono (h r n G a w hm' R0) ?_;rintro e a' w' ⟨σ',G',R',hE,hm'',hQ⟩;cases e with
 | exit i =>
   simp only [AExit.onX] at hQ;split at hQ
   ·rename_i hi;subst hi;exact ⟨_,_,R'.fitS sf hQ.1,hE.nh k,hm,h2 _ hQ.2⟩
   exact ⟨σ',G',R',hE,hm'',hQ⟩
 | _=>exact ⟨σ',G',R',hE,hm'',hQ⟩
theorem oNi (h:σ.fits ts k=true/\R (σ.fitS ts sf k)):AExit.onN ts sf k R Q .normal σ:=h
theorem oNr (h:Q .ret σ):AExit.onN ts sf k R Q .ret σ:=h
theorem oxI {j:Nat} (h:σ.fits ts k=true/\R (σ.fitS ts sf k)):AExit.onX j ts sf k R Q (.exit j) σ:=by simp only [AExit.onX,if_true];exact h
theorem oxR {j:Nat} (h:Q .ret σ):AExit.onX j ts sf k R Q .ret σ:=h
end
section
variable {S X:Type}
def itN (step:S->Option (S⊕X)):Nat->S->Option X
 | 0,_=>none
 | n+1,s=>(step s).bind (Sum.elim (fun s'=>itN step n s') some)
theorem b2m {step:S->Option (S⊕X)} : ∀ {n m:Nat} {s:S} {x:X},n<=m->itN step n s=some x->itN step m s=some x
 | 0,_,_,_,_,h=>by cases h
 | n+1,0,_,_,hn,_=>by omega
 | n+1,m+1,s,x,hn,h=>by
   simp only [itN] at h ⊢;obtain ⟨e,he,h⟩:=a0a h;rw [he];cases e with
   | inl s'=>exact b2m (n:=n) (by omega) (eL h)
   | inr y=>exact h
open Classical in
noncomputable def iter (step:S->Option (S⊕X)) (s:S):Option X:=if h : ∃ n x,itN step n s=some x then itN step h.choose s else none
theorem a8Y {step:S->Option (S⊕X)} {n:Nat} {s:S} {x:X} (h:itN step n s=some x):iter step s=some x:=by
 have hex : ∃ n x,itN step n s=some x:=⟨n,x,h⟩;unfold iter;rw [dif_pos hex];obtain ⟨y,hy⟩:=hex.choose_spec;rw [hy];have h1:=b2m (Nat.le_max_left n hex.choose) h;have h2:=b2m (Nat.le_max_right n hex.choose) hy;rw [h1] at h2;exact h2.symm
theorem a6X {step:S->Option (S⊕X)} {s:S} {x:X} (h:iter step s=some x) : ∃ n,itN step n s=some x:=by
 unfold iter at h;split at h
 ·exact ⟨_,h⟩
 cases h
theorem a0N {step:S->Option (S⊕X)} {s s':S} (h:step s=some (.inl s')):iter step s=iter step s':=by
 have key : ∀ x,iter step s=some x↔iter step s'=some x:=by
  intro x;constructor
  ·intro hx;obtain ⟨n,hn⟩:=a6X hx;cases n with
   | zero=>cases hn
   | succ n=>simp only [itN,h,Option.bind_some,Sum.elim_inl] at hn;exact a8Y hn
  intro hx;obtain ⟨n,hn⟩:=a6X hx;exact a8Y (n:=n+1) (by simp only [itN,h,Option.bind_some,Sum.elim_inl];exact hn)
 cases e:iter step s with
 | some x=>exact ((key x).1 e).symm
 | none =>
   cases e':iter step s' with
   | none=>rfl
   | some x=>rw [(key x).2 e'] at e;cases e
theorem a0E {step:S->Option (S⊕X)} {s:S} {x:X} (h:step s=some (.inr x)):iter step s=some x :=
 a8Y (n:=1) (by simp only [itN,h,Option.bind_some,Sum.elim_inr])
theorem exL {e:S⊕X} {x x':X} {p:Prop} (he:some (Sum.inr x')=some e) (hq:x'=x->p) : ∃ x'',e = .inr x''/\(x''=x->p):=⟨x',(soI he).symm,hq⟩
variable {P:Program} {m:Nat} {Q:Exit->St->Prop} {σ:St} {c:Code}
theorem AWp.iter {step:S->Option (S⊕X)} {s0:S} {x:X} (hx:iter step s0=some x) (ts sf:List Nat) (k:Nat) (hm:m<=k) (F:S->St) (hf:σ.fits ts k=true/\σ.fitS ts sf k=F s0)
  (h : ∀ s e,step s=some e->AWp P m c (AExit.then (fun σ' => ∃ s',e = .inl s'/\σ'.fits ts k=true/\σ'.fitS ts sf k=F s') (fun ex σ' => ∃ x',e = .inr x'/\(x'=x->Q ex σ'))) (F s)):AWp P m (.loop c) Q σ:=by
 obtain ⟨n,hn⟩:=a6X hx;refine AWp.fitR ts sf k hm hf.1 ?_;rw [hf.2];refine AWp.loop (ι:={ i:S×Nat // itN step i.2 i.1=some x }) (fun i=>i.1.2) (fun i=>F i.1.1) ⟨(s0,n),hn⟩ ?_;rintro ⟨⟨s,n⟩,hi⟩;cases n with
 | zero=>cases hi
 | succ n =>
   simp only [itN] at hi;obtain ⟨e,he,hi⟩:=a0a hi;intro r n' G a w hm' R;refine wpIn_mono (h s e he r n' G a w hm' R) ?_;rintro ex a' w' ⟨σ',G',R',hE,hm'',hq⟩;cases ex with
   | normal =>
     obtain ⟨s',rfl,h1,h2⟩:=hq;exact ⟨_,_,R'.fitS sf h1,hE.nh k,hm,⟨(s',n),hi⟩,Nat.lt_succ_self _,h2⟩
   | _=>obtain ⟨x',rfl,h1⟩:=hq;exact ⟨σ',G',R',hE,hm'',h1 (soI hi)⟩
end
section
variable {P:Program} {T:a0j} {m:Nat} {Q:Exit->St->Prop} {K:St->Prop} {σ σ':St} {ops:Array Oper} {id:Nat} {c:Code} {A:Ar}
theorem nT (h:K σ):AExit.then K Q .normal σ:=h
theorem nB (h:Q .normal σ):AExit.block id Q .normal σ:=h
theorem xT {j:Nat} (h:Q (.exit j) σ):AExit.then K Q (.exit j) σ:=h
theorem xB (h:Q .normal σ):AExit.block id Q (.exit id) σ:=by simp only [AExit.block,if_true];exact h
theorem rT (h:Q .ret σ):AExit.then K Q .ret σ:=h
theorem rB (h:Q .ret σ):AExit.block id Q .ret σ:=h
theorem AWp.rg (hT:TOk P T) (hA:A=Ar.std) (an:Ann) (h:a8d A T an ops.toList ops.toList σ = .done σ') (hm:m<=σ.heap.length) (k:Q .normal σ'):AWp P m (.region id ops false) Q σ :=
 AWp.reg1 an hT (fun A' hA'=>by subst hA';subst hA;exact h) hm k
theorem AWp.rd (hT:TOk P T) (hA:A=Ar.std) (an:Ann) (hmix:P.follows .mixedOrders=true) {xs:List Rec} (h:a7t A T an ops.toList ops.toList σ [] = .done σ' xs) (hok:a2d ops.toList (xs.map Rec.foot)=true) (hm:m<=σ.heap.length) (k:Q .normal σ'):AWp P m (.region id ops true) Q σ :=
 AWp.reg1D an hT hmix (fun A' hA'=>by subst hA';subst hA;exact h) hok hm k
variable {l rest:List Oper} {f:FuncId} {args:List AV} {o:Oper} {σ1:St} {H Hr H':List Obj} {r:AV} {d:Nat} {xs xs1:List Rec}
theorem a1I.cc (hT:TOk P T) (hA:A=Ar.std) (an:Ann) (h:a8d A T an ops.toList l σ = .call f args o rest σ1)
  (hm:m<=σ.heap.length) (hc:a0n P f args H r H') (hH:σ1.heap=H++Hr) (hr:Hr=[]\/H'.length=H.length) (hin:a0v H.length H=true) (hargs:a4n H.length args=true) (hd:o.dst=some d) (hlt:d<σ1.n) (hb:(σ1.get d).isBox=false)
  (hfr:args.all AV.free=true) (k:a1I P m ops rest Q { σ1 with env:=eset σ1.env d r,heap:=H'++Hr }):a1I P m ops l Q σ :=
 a1I.stepCall hT (an:=an) (fun A' hA'=>by subst hA';subst hA;exact h) hm hH hr hin hargs hd hlt hb hfr hc k
theorem a1I.cd (hT:TOk P T) (hA:A=Ar.std) (an:Ann) (h:a8d A T an ops.toList l σ = .done σ') (hm:m<=σ.heap.length) (hq:Q .normal σ'):a1I P m ops l Q σ :=
 a1I.done hT (an:=an) (fun A' hA'=>by subst hA';subst hA;exact h) hm hq
theorem a1q.cl (hT:TOk P T) (hA:A=Ar.std) (an:Ann) (hl:l=ops.toList.drop xs.length) (h:a7t A T an ops.toList l σ xs = .call f args o rest σ1 xs1)
  (hc:a0n P f args H r H') (hH:σ1.heap=H++Hr) (hr:H'.length=H.length) (hin:a0v H.length H=true) (hargs:a4n H.length args=true) (hd:o.dst=some d) (hlt:d<σ1.n) (hb:(σ1.get d).isBox=false) (hfr:args.all AV.free=true)
  (k:a1q P m ops rest (xs1++[{ sets:=[(d,r)],heap:=none,rd:=a0o ops.toList o,hr:=false,ho:=List.range H.length,low:=H' }]) K (σ1.upd [(d,r)] (some (H'++Hr)))):a1q P m ops l xs K σ :=
 a1q.stepCallL hT (an:=an) hl (fun A' hA'=>by subst hA';subst hA;exact h) hH hr hin hargs hd hlt hb hfr hc k
theorem a1q.c0 (hT:TOk P T) (hA:A=Ar.std) (an:Ann) (hl:l=ops.toList.drop xs.length) (h:a7t A T an ops.toList l σ xs = .call f args o rest σ1 xs1)
  (hc:a0n P f args [] r []) (hargs:a4n 0 args=true) (hd:o.dst=some d) (hlt:d<σ1.n) (hb:(σ1.get d).isBox=false) (hfr:args.all AV.free=true)
  (k:a1q P m ops rest (xs1++[{ sets:=[(d,r)],heap:=none,rd:=a0o ops.toList o,hr:=false,ho:=[],low:=[] }]) K (σ1.upd [(d,r)] none)):a1q P m ops l xs K σ :=
 a1q.stepCall hT (an:=an) hl (fun A' hA'=>by subst hA';subst hA;exact h) hargs hd hlt hb hfr hc k
theorem a1q.cd (hT:TOk P T) (hA:A=Ar.std) (an:Ann) {xs':List Rec} (hl:l=ops.toList.drop xs.length) (h:a7t A T an ops.toList l σ xs = .done σ' xs') (hok:a2d ops.toList (xs'.map Rec.foot)=true) (hq:K σ'):a1q P m ops l xs K σ :=
 a1q.done hT (an:=an) hl (fun A' hA'=>by subst hA';subst hA;exact h) hok hq
theorem AWp.cdT {t:Nat} {x y:Code} {b:Bool} (hc:σ.get t = .d (.bool b)) (hb:b=true) (h:AWp P m x Q σ):AWp P m (.cond (.tmp t) x y) Q σ:=by
 subst hb;exact AWp.cond (b:=true) hc h
theorem AWp.cdF {t:Nat} {x y:Code} {b:Bool} (hc:σ.get t = .d (.bool b)) (hb:b=false) (h:AWp P m y Q σ):AWp P m (.cond (.tmp t) x y) Q σ:=by
 subst hb;exact AWp.cond (b:=false) hc h
theorem a6S.loop {ι:Type} {c:Code} (μ:ι->Nat) (S:ι->St) (i0:ι) (h : ∀ i,a6S P m c (AExit.then (fun σ' => ∃ j,μ j<μ i/\σ'=S j) Q) (S i)):a6S P m (.loop c) Q (S i0):=by
 intro n G a w hm R b k cs hro hb hr;have key : ∀ (q:Nat) (i:ι),μ i=q -> ∀ (G1:Gh) (a:Act) (w1:World),m<=G1.nh->Rel G1 (S i) a w1->Ext m G w G1 w1 ->
   ∃ e a' w',Post m G w Q e a' w'/\ArrivesIn (Machine.fenced P (Wd none)) P (lone (b.atR a (.code c :: .inLoop c::k)) cs w1) b k cs e a' w':=by
  intro q
  induction q using Nat.strongRecOn with
  | _ q ih =>
    intro i hi G1 a w1 hm1 R1 hE1;obtain ⟨e,a₁,w₁,hq,harr⟩:=h i n G1 a w1 hm1 R1 b (.inLoop c::k) cs hro hb hr;obtain ⟨σ',G',R',hE,hm',hQ⟩:=hq;cases e with
    | normal =>
      obtain ⟨j,hlt,rfl⟩:=hQ;obtain ⟨e₂,a₂,w₂,hq₂,harr₂⟩:=ih (μ j) (hi▸hlt) j rfl G' a₁ w₁ hm' R' (hE1.trans hE);exact ⟨e₂,a₂,w₂,hq₂,.of_steps (StepsIn.trans harr (.one (fenced_calm hb hr rfl) stepR_inLoop)) harr₂⟩
    | exit id=>exact ⟨_,a₁,w₁,⟨σ',G',R',hE1.trans hE,hm',hQ⟩,.pass (x := .inLoop c) rfl (fun _ _ => .inl (by simp)) harr⟩
    | goto l=>exact ⟨_,a₁,w₁,⟨σ',G',R',hE1.trans hE,hm',hQ⟩,.pass (x := .inLoop c) rfl (fun _ _ => .inl (by simp)) harr⟩
    | ret=>exact ⟨_,a₁,w₁,⟨σ',G',R',hE1.trans hE,hm',hQ⟩,.pass (x := .inLoop c) rfl (fun _ _ => .inl (by simp)) harr⟩
    | panic ch=>exact ⟨_,a₁,w₁,⟨σ',G',R',hE1.trans hE,hm',hQ⟩,.pass (x := .inLoop c) rfl (fun _ _ => .inl (by simp)) harr⟩
    | outgrown=>exact ⟨_,a₁,w₁,⟨σ',G',R',hE1.trans hE,hm',hQ⟩,.pass (x := .inLoop c) rfl (fun _ _ => .inl (by simp)) harr⟩
 obtain ⟨e,a',w',hq,harr⟩:=key _ i0 rfl G a w hm R (Ext.refl _ _ _);exact ⟨e,a',w',hq,.of_steps (.one (fenced_calm hb hr rfl) stepR_loop) harr⟩
end
def cIf:Cod Int where
 en z := .iface z
 un d:=match d with | .iface z=>some z | _=>none
 ok d z h:=by
  cases d <;> simp at h;rw [h]
 ko z:=rfl
theorem ifF {A:Ar} (hA:A=Ar.std) {z:Int} {n:Nat} (h:A.zeq z (Int.ofNat n)=true):z=Int.ofNat n:=by
 subst hA;exact of_decide_eq_true h
def cU:Cod Unit where
 en _ := .agg []
 un d:=match d with | .agg []=>some () | _=>none
 ok d z h:=by
  split at h
  ·rfl
  cases h
 ko z:=rfl
variable {P:Program} {T:a0j} {A:Ar} {m:Nat} {ops:Array Oper} {σ σ1:St} {o:Oper} {i:Nat} {K:St->Prop} {l rest:List Oper} {xs xs1:List Rec}
theorem a1w.callP (hT:TOk P T) (ho:ops[i]?=some o) {f:FuncId} {args:List AV} {r:AV} {H rest:List Obj} {d:Nat} (hw:a1Q ops.toList σ o=some true) (hcall:a2c T σ o=some (f,args)) (hH:σ.heap=H++rest)
  (hin:a0v H.length H=true)
  (hargs:a4n H.length args=true) (hd:o.dst=some d) (hlt:d<σ.n) (hb:(σ.get d).isBox=false) (hfr:args.all AV.free=true) (hc:a0n P f args H r H) :
  a1w P m ops i σ { sets:=[(d,r)],heap:=none,rd:=a0o ops.toList o,hr:=false,ho:=List.range H.length,low:=[] }:=by
 intro τ hrd hhr hho hn hm;have h:=a1w.callL (m:=m) hT ho hw hcall hH rfl hin hargs hd hlt hb hfr hc τ hrd hhr hho hn hm;have e:Rec.app τ { sets:=[(d,r)],heap:=none,rd:=a0o ops.toList o,hr:=false,ho:=List.range H.length,low:=H }=Rec.app τ { sets:=[(d,r)],heap:=none,rd:=a0o ops.toList o,hr:=false,ho:=List.range H.length,low:=[] }:=by
  obtain ⟨rest',hheap⟩ : ∃ rest',τ.heap=H++rest':=a6s (fun a ha=>by
   rw [hho a (List.mem_range.2 ha),hH,zp7 ha])
  have:a2q H τ.heap=τ.heap:=by unfold a2q;rw [hheap,List.drop_left]
  simp only [Rec.app,St.upd,Option.getD_none,this,a8f,a3P]
 rw [e] at h;exact h
theorem a1q.cp (hT:TOk P T) (hA:A=Ar.std) (an:Ann) {f:FuncId} {args:List AV} {r:AV} {H Hr:List Obj} {d:Nat} (hl:l=ops.toList.drop xs.length) (h:a7t A T an ops.toList l σ xs = .call f args o rest σ1 xs1)
  (hc:a0n P f args H r H) (hH:σ1.heap=H++Hr) (hin:a0v H.length H=true) (hargs:a4n H.length args=true) (hd:o.dst=some d) (hlt:d<σ1.n) (hb:(σ1.get d).isBox=false) (hfr:args.all AV.free=true)
  (k:a1q P m ops rest (xs1++[{ sets:=[(d,r)],heap:=none,rd:=a0o ops.toList o,hr:=false,ho:=List.range H.length,low:=[] }]) K (σ1.upd [(d,r)] none)):a1q P m ops l xs K σ :=
 a1q.run (an:=an) hT l xs σ hl (by
  rw [(fun A' (hA':A'=Ar.std)=>by subst hA';subst hA;exact h : ∀ A:Ar,A=Ar.std->a7t A T an ops.toList l σ xs = .call f args o rest σ1 xs1) _ rfl];exact fun hcall hw ho=>a1q.cons (a1w.callP hT ho hw hcall hH hin hargs hd hlt hb hfr hc) k)
theorem rs1 {x:ResultVar} {a:AV} (h:a3O T σ true x=some a):b4g T σ [x]=some a:=h
end Go.Am
namespace Go.Am
open Go
variable {P:Program} {m:Nat} {Q:Exit->St->Prop} {σ:St} {c:Code}
theorem RelH.freezeP {G:Gh} {H:List Obj} {w:World} {c:Loc} (R:RelH G H w) {i k:Nat} {lo n:Int} {l:List D} {v:Value} (hrep:RepV G w c (.mref i k lo n) v) (hi:H[i]?=some (.arr k l)) (hfit:lo+n<=l.length) :
  ∃ G',RelH G' (H.set i .dead) w/\RepD G'.K (.list k (Ar.std.sub l lo (lo+n))) v/\(∀ m,Ext m G w G' w)/\Pres G G' w w (fun x=>x ≠ .o i)/\G'.β=G.β:=by
 cases hrep with | mref _ _ _ _ _ b off cap hnh hlo hn hcap hbo =>
 obtain ⟨vs,e,hO,hw,hu,hsz,h1,hh⟩:=R.objs i _ hi;have hil:i<H.length:=(zp2.1 hi).1;have hfl:=a0b hu;let B:=G.β (.o i);let G':Gh:={ G with K:=fun x=>if x.block=B/\x.spot=none/\x.off<(D.flat l).length then some (vs.getD x.off Go.undef) else G.K x,O:=fun x=>if x=B then none else G.O x }
 have hdisj:=R.disj _ _ _ hO;have hKle:KLe G.K G'.K:=by
  intro x v h;simp only [G'];rw [if_neg];exact h;rintro ⟨hb,hsp,_⟩;obtain ⟨xb,xo,xs⟩:=x;simp at hb hsp;subst hb hsp;rw [hdisj.2 xo (Nat.zero_le _)] at h;cases h
 have hOold : ∀ b' x f',x ≠ .o i->G.O b'=some (x,f')->G'.O b'=some (x,f'):=by
  intro b' x f' hx h;have:b'≠B:=by rintro rfl;rw [show G.O B=_ from hO] at h;simp at h;exact hx h.1.symm
  simp only [G'];rw [if_neg this];exact h
 have hpr:Pres G G' w w (fun x=>x ≠ .o i) :=
  ⟨hKle,fun b' x f' hx h=>⟨hOold b' x f' hx h,rfl⟩,fun _ _=>rfl,Nat.le_refl _⟩
 have hkept : ∀ x v,G'.K x=some v->w.cell? x=some v:=by
  intro x v h;simp only [G'] at h;split at h
  ·rename_i hc;obtain ⟨xb,xo,xs⟩:=x;obtain ⟨h1',h2',h3'⟩:=hc;simp at h1' h2' h3' h;subst h1' h2';rw [a0S hw (by omega)];simpa using h
  exact R.kept x v h
 obtain ⟨LO,rfl⟩:=zp9 hlo;obtain ⟨N,rfl⟩:=zp9 hn;have hsubl:Ar.std.sub l LO (LO+N)=(l.drop LO).take N:=by
  simp only [Ar.std];congr 1
  all_goals omega
 have hlist':RepD G'.K (.list k ((l.drop LO).take N)) (.slice (some ⟨b,off,none⟩) N cap):=by
  by_cases hN:N=0
  ·subst hN;simp only [List.take_zero];exact RepD.empty _ _ _ _ _
  obtain ⟨rfl,rfl⟩:=hbo (by omega);simp only [Int.toNat_natCast];have hus:=hu.sub LO N;have hln:((l.drop LO).take N).length=N:=by simp;omega
  have hfe:D.flat ((l.drop LO).take N)=((D.flat l).drop (LO*k)).take (N*k):=by
   rw [a0Q (fun x hx=>hu x (List.mem_of_mem_drop hx)),a1p hu]
  have hflN:=a0b hus;have hmul:LO*k+N*k<=l.length*k:=by rw [<-Nat.add_mul];exact Nat.mul_le_mul_right _ (by omega)
  have hgetj : ∀ (j:Nat) (hj:j<(D.flat ((l.drop LO).take N)).length),(D.flat ((l.drop LO).take N))[j]=(D.flat l)[LO*k+j]'(by rw [hflN,hln] at hj;omega):=by
   intro j hj;simp only [hfe,List.getElem_take,List.getElem_drop]
  have:=RepD.list (K:=G'.K) k ((l.drop LO).take N) (G.β (.o i)) (LO*k) cap (fun j=>vs.getD (LO*k+j) Go.undef) hus (by rw [hln];simpa using hcap)
   (fun j hj=>by
    rw [hflN,hln] at hj;have hjj:LO*k+j<(D.flat l).length:=by omega
    simp [G',B,hjj])
   (fun j hj=>by rw [hflN,hln] at hj;exact h1 _ (by omega))
   (fun j hj=>by
    rw [hgetj j hj];rw [hflN,hln] at hj;exact (hh _ (by omega)).mono hKle)
  rwa [hln] at this
 refine ⟨G',⟨⟨fun b' x f' h => ?_⟩,by simpa [G'] using R.nh,fun i' ob hob => ?_,hkept,fun b' x f' h => ?_⟩,by rw [hsubl];exact hlist',fun m=>⟨hKle,fun x v h => ?_,fun b' hb h=>⟨rfl,?_⟩,Nat.le_refl _,fun _ _=>rfl,rfl,rfl,fun _ _=>rfl,rfl,Nat.le_refl _⟩,hpr,rfl⟩
 ·simp only [G'] at h;split at h
  ·cases h
  exact R.sane.no b' x f' h
 ·by_cases hii:i=i'
  ·subst hii;simp [List.getElem?_set_self hil] at hob;subst hob;trivial
  rw [List.getElem?_set_ne hii] at hob;exact (R.objs i' ob hob).pres R.sane (by rw [<-R.nh];exact (zp2.1 hob).1) hpr (by simp;exact fun e=>hii e.symm) (by simp)
 ·simp only [G'] at h ⊢;split at h
  ·cases h
  rename_i hne;refine ⟨(R.disj b' x f' h).1,fun j hj => ?_⟩;rw [if_neg (by intro hc;exact hne hc.1)];exact (R.disj b' x f' h).2 j hj
 ·simp only [G'] at h;split at h
  ·rename_i hc;exact .inr (.inl ⟨_,by rw [hc.1];exact hO⟩)
  exact .inl h
 simp only [G'];split
 ·rfl
 exact h
theorem RelH.freeze {G:Gh} {H:List Obj} {w:World} {c:Loc} (R:RelH G H w) {i k:Nat} {lo n:Int} {l:List D} {v:Value} (hrep:RepV G w c (.mref i k lo n) v) (hi:H[i]?=some (.arr k l)) (hfit:lo+n<=l.length) :
  ∃ G',RelH G' (H.set i .dead) w/\RepD G'.K (.list k (Ar.std.sub l lo (lo+n))) v /\ ∀ m,Ext m G w G' w:=by
 obtain ⟨G',h1,h2,h3,_⟩:=R.freezeP hrep hi hfit;exact ⟨G',h1,h2,h3⟩
end Go.Am
namespace Go.Am
open Go
def b7w (l:List D):Bool:=l.all fun x=>match x with | .list _ ys=>scalars ys | _=>false
def loose (l:List D):Bool:=scalars l||b7w l
def b9k (P:Program) (c:Code) (Q:Exit->St->Prop) (σ:St):Prop :=
 ∀ (n:Nat) (G0:Gh) (w0:World) (G:Gh) (a:Act) (w:World),(∀ b,G0.O b=none)->(∀ x v,G0.K x=some v->x.block<w0.heap.size)->Rel G σ a w->Ext 0 G0 w0 G w->c.wpIn (Wd none) n P (Post 0 G0 w0 Q) a w
section
variable {P:Program} {c x y:Code} {Q:Exit->St->Prop} {σ:St}
theorem b9k.seq (h:a6S P 0 x (AExit.then (b9k P y Q) Q) σ):b9k P (.seq x y) Q σ:=by
 intro n G0 w0 G a w hO hK R hE0;refine wpIn_seq (wpIn_mono (h n G a w (Nat.zero_le _) R) ?_);rintro e a' w' ⟨σ',G',R',hE,hm',hQ⟩;cases e with
 | normal=>exact hQ n G0 w0 G' a' w' hO hK R' (hE0.trans hE)
 | _=>exact ⟨σ',G',R',hE0.trans hE,hm',hQ⟩
end
section
variable (x y:Int) (l m:List D)
@[simp] theorem a5A:Ar.std.zle x y=decide (x<=y):=rfl
@[simp] theorem a5B:Ar.std.zlt x y=decide (x<y):=rfl
@[simp] theorem a2g:Ar.std.zeq x y=decide (x=y):=rfl
@[simp] theorem a0m (k:IntKind):Ar.std.wrp k x=k.wrap x:=rfl
@[simp] theorem a0q:Ar.std.zadd x y=x+y:=rfl
@[simp] theorem a0U:Ar.std.zsub x y=x-y:=rfl
@[simp] theorem b8C:Ar.std.zmul x y=x*y:=rfl
@[simp] theorem b9l:Ar.std.nat x=x.toNat:=rfl
@[simp] theorem b9m:Ar.std.len l=(l.length:Int):=rfl
@[simp] theorem b4j (i:Nat):Ar.std.lget l i=l[i]?:=rfl
@[simp] theorem b4k:Ar.std.fits x=decide (x<4294967296):=rfl
@[simp] theorem b5X:Ar.std.sub l x y=(l.drop x.toNat).take (y.toNat-x.toNat):=rfl
@[simp] theorem b9n:Ar.std.app l m=l++m:=rfl
@[simp] theorem b9o (k:IntKind):Ar.std.quo k x y=k.wrap (x.tdiv y):=rfl
@[simp] theorem b9p:Ar.std.rem x y=x.tmod y:=rfl
@[simp] theorem b9q (k:IntKind):Ar.std.shl k x y=k.wrap (x*2 ^ (min y.toNat k.bits)):=rfl
@[simp] theorem b9r (k:IntKind):Ar.std.shr k x y=x.fdiv (2 ^ (min y.toNat k.bits)):=rfl
@[simp] theorem b8D (op:BinOp) (k:IntKind):Ar.std.bits op k x y=a2R op k x y:=rfl
@[simp] theorem b9s (a b:Bool):Ar.std.beq a b=(a == b):=rfl
@[simp] theorem b8E:Ar.std.zmin x y=if y<x then y else x:=rfl
@[simp] theorem b8F:Ar.std.zmax x y=if y>x then y else x:=rfl
@[simp] theorem b8G (es:List (D×D)) (k:D):Ar.std.mget es k=Am.mget es k:=rfl
@[simp] theorem b8H (es:List (D×D)) (k v:D):Ar.std.mput es k v=Am.mput es k v:=rfl
@[simp] theorem b8I (es:List (D×D)) (k:D):Ar.std.midx es k=(Am.midx es k:Int):=rfl
@[simp] theorem b8J (es:List (D×D)) (z:Int):Ar.std.mhas es z=decide (0<=z/\z<es.length):=rfl
@[simp] theorem b8K (es:List (D×D)) (z:Int) (v:D):Ar.std.mset es z v=es.modify z.toNat fun p=>(p.1,v):=rfl
@[simp] theorem b8L (i:Nat) (d:D):Ar.std.lset l i d=l.set i d:=rfl
@[simp] theorem b9t (d:D):Ar.std.rep x d=List.replicate x.toNat d:=rfl
@[simp] theorem b8M:Ar.std.ones l=l.all D.isOne:=rfl
@[simp] theorem b9u:Ar.std.spl l x m=l.take x.toNat++m++l.drop (x.toNat+m.length):=rfl
@[simp] theorem b4l (d:D):Ar.std.fill l x y d=a1e l x y d:=rfl
open Classical in
@[simp] theorem b9v:Ar.std.deq l m=decide (l=m):=rfl
end
theorem a4d (n:Int) (h0 : -9223372036854775808<=n) (h1:n<9223372036854775808):IntKind.i64.wrap n=n:=by
 simp [IntKind.wrap_i64];omega
@[simp] theorem c0C {α β:Type} (a:α) (f:α->Option β):(some a).bind f=f a:=rfl
@[simp] theorem b9w:ck true=some ():=rfl
@[simp] theorem b8N:nk false=some ():=rfl
@[simp] theorem b7x {α:Type} (c:Bool) (a b:α):(bif c then some a else some b)=some (bif c then a else b):=by cases c <;> rfl
@[simp] theorem c0D (b:Bool):cB.un (.bool b)=some b:=rfl
@[simp] theorem c0E (b:ByteArray):cS.un (.str b)=some b:=rfl
@[simp] theorem c0F (l:List D):cA.un (.agg l)=some l:=rfl
@[simp] theorem c0G {τ:Type} (c:Cod τ) (x:D):(l1 c).un [x]=c.un x:=rfl
@[simp] theorem c0H {τ ρ:Type} (c:Cod τ) (d:CodL ρ) (x:D) (r:List D):(lc c d).un (x::r)=(c.un x).bind fun a=>(d.un r).map fun b=>(a,b):=rfl
@[simp] theorem c0I {τ:Type} (d:CodL τ) (l:List D):(cG d).un (.agg l)=d.un l:=rfl
theorem b7y {α:Type} (f:α->D) (l:List α) (lo hi:Int) (h0:0<=lo) (h1:lo<=hi) (h2:hi<=l.length):sl Ar.std (l.map f) lo hi=some (((l.drop lo.toNat).take (hi.toNat-lo.toNat)).map f):=by
 simp [sl,h0,h1,h2,List.map_take,List.map_drop]
theorem b5Y {α:Type} (f:α->D) (l:List α) (i:Nat) (h2:i<=l.length):sl Ar.std (l.map f) 0 (i:Int)=some ((l.take i).map f):=by
 rw [b7y f l 0 i (by omega) (by omega) (by omega)];simp
theorem a8m {α:Type} (f:α->D) (l m:List α) (h:(l.length:Int)+m.length<4294967296):ap Ar.std (l.map f) (m.map f)=some ((l++m).map f):=by
 simp [ap,h]
section
variable {S X:Type} {step:S->Option (S⊕X)}
end
def a8Z {α S X:Type} (f:S->α->S⊕X) (fin:S->X):List α->S->X
 | [],s=>fin s
 | a::l,s=>(f s a).elim (a8Z f fin l) id
section
variable {α S X:Type}
theorem a6t (f:S->α->S⊕X) (fin:S->X) (a:α) (l:List α) (s:S):a8Z f fin (a::l) s=(f s a).elim (a8Z f fin l) id:=rfl
theorem a8n (g:S->α->S) (fin:S->X) : ∀ (l:List α) (s:S),a8Z (fun s a => .inl (g s a)) fin l s=fin (l.foldl g s)
 | [],_=>rfl
 | a::l,s=>by simp only [a6t,Sum.elim_inl,a8n g fin l,List.foldl_cons]
variable {T:Type} {step:T->Option (T⊕X)}
theorem b2n (l:List α) (st:S->Nat->T) (f:S->α->S⊕X) (fin:S->X) (Inv:Nat->S->Prop)
  (hs : ∀ i a s,l[i]?=some a->Inv i s->(∃ s',f s a = .inl s'/\Inv (i+1) s'/\step (st s i)=some (.inl (st s' (i+1))))\/(∃ x,f s a = .inr x/\step (st s i)=some (.inr x)))
  (he : ∀ s,Inv l.length s->step (st s l.length)=some (.inr (fin s))) (s0:S) (h0:Inv 0 s0):iter step (st s0 0)=some (a8Z f fin l s0):=by
 have key : ∀ (k i:Nat) (s:S),i+k=l.length->Inv i s->iter step (st s i)=some (a8Z f fin (l.drop i) s):=by
  intro k
  induction k with
  | zero =>
    intro i s hi hI;obtain rfl:i=l.length:=by omega
    rw [List.drop_length,a0E (he s hI)];rfl
  | succ k ih =>
    intro i s hi hI;have hlt:i<l.length:=by omega
    rw [List.drop_eq_getElem_cons hlt,a6t];rcases hs i l[i] s (zp1 hlt) hI with ⟨s',h1,h2,h3⟩ | ⟨x,h1,h3⟩
    ·rw [h1,a0N h3,ih (i+1) s' (by omega) h2];rfl
    rw [h1,a0E h3];rfl
 have:=key l.length 0 s0 (by omega) h0;simpa using this
theorem b0F (l:List α) (st:S->Nat->T) (f:S->α->S⊕X) (fin:S->X)
  (hs : ∀ i a s,l[i]?=some a->i<l.length->step (st s i)=some ((f s a).elim (fun s' => .inl (st s' (i+1))) .inr))
  (he : ∀ s,step (st s l.length)=some (.inr (fin s))) (s0:S):iter step (st s0 0)=some (a8Z f fin l s0):=by
 refine b2n l st f fin (fun _ _=>True) (fun i a s ha _ => ?_) (fun s _=>he s) s0 trivial;have:=hs i a s ha (zp2.1 ha).1;cases hf:f s a with
 | inl s'=>rw [hf] at this;exact .inl ⟨s',rfl,trivial,this⟩
 | inr x=>rw [hf] at this;exact .inr ⟨x,rfl,this⟩
end
section
variable {α τ:Type}
theorem a4E {l m:List D} (h:(l.length:Int)+m.length<4294967296):ap Ar.std l m=some (l++m):=by
 simp [ap,h]
theorem b9x {i n:Nat} (h:i<n) (hn:n<9223372036854775808):IntKind.i64.wrap ((i:Int)+1)=((i+1:Nat):Int):=by
 rw [a4d _ (by omega) (by omega)];omega
end
section
variable {τ:Type}
def ltF (f:τ->τ->Option Int) (x y:τ):Bool:=match f x y with
 | some r=>decide (r<0)
 | none=>false
structure CmpOk (f:τ->τ->Option Int) (xs:List τ):Prop where
 some : ∀ x∈xs,∀ y∈xs,∃ r,f x y=some r
 irr : ∀ x∈xs,ltF f x x=false
 tr : ∀ x∈xs,∀ y∈xs,∀ z∈xs,ltF f x y=true->ltF f y z=true->ltF f x z=true
 tot : ∀ x∈xs,∀ y∈xs,ltF f x y=false->ltF f y x=false->x=y
theorem CmpOk.ntr {f:τ->τ->Option Int} {xs:List τ} (h:CmpOk f xs) : ∀ x∈xs,∀ y∈xs,∀ z∈xs,ltF f x y=false->ltF f y z=false->ltF f x z=false:=by
 intro x hx y hy z hz h1 h2;cases h3:ltF f x z with
 | false=>rfl
 | true =>
   cases h4:ltF f y x with
   | false=>rw [h.tot x hx y hy h1 h4] at h3;rw [h3] at h2;cases h2
   | true=>rw [h.tr y hy x hx z hz h4 h3] at h2;cases h2
open Classical in
noncomputable def srt (c:Cod τ) (f:τ->τ->Option Int) (lo n:Int) (l:List D):Option (List D) :=
 if h:lo=0/\n=(l.length:Int)/\n<4611686018427387904 /\ ∃ xs:List τ,l=xs.map c.en/\CmpOk f xs then some ((h.2.2.2.choose.mergeSort fun x y => !ltF f y x).map c.en) else none
theorem Cod.inj (c:Cod τ) {x y:τ} (h:c.en x=c.en y):x=y:=by
 have:=c.ko x;rw [h,c.ko] at this;exact (Option.some.inj this).symm
theorem Cod.map_inj (c:Cod τ) : ∀ {xs ys:List τ},xs.map c.en=ys.map c.en->xs=ys
 | [],[],_=>rfl
 | [],_::_,h=>by simp at h
 | _::_,[],h=>by simp at h
 | x::xs,y::ys,h=>by
   simp at h;rw [c.inj h.1,Cod.map_inj c (xs:=xs) (ys:=ys) (by simpa using h.2)]
theorem b7z {c:Cod τ} {f:τ->τ->Option Int} {n:Int} {xs:List τ} (hn:n=(xs.length:Int)) (hs:n<4611686018427387904) (h:CmpOk f xs):srt c f 0 n (xs.map c.en)=some ((xs.mergeSort fun x y => !ltF f y x).map c.en):=by
 have hh:(0:Int)=0/\n=((xs.map c.en).length:Int)/\n<4611686018427387904 /\ ∃ ys:List τ,xs.map c.en=ys.map c.en/\CmpOk f ys:=⟨rfl,by simpa using hn,hs,xs,rfl,h⟩;unfold srt;rw [dif_pos hh];have:=hh.2.2.2.choose_spec.1;rw [<-c.map_inj this]
theorem c0J {c:Cod τ} {f:τ->τ->Option Int} {lo n:Int} {l l':List D} (h:srt c f lo n l=some l'):lo=0/\n=(l.length:Int)/\n<4611686018427387904 /\ ∃ xs:List τ,l=xs.map c.en/\CmpOk f xs/\l'=(xs.mergeSort fun x y => !ltF f y x).map c.en:=by
 unfold srt at h;split at h
 ·rename_i hh;have hc:=hh.2.2.2.choose_spec;generalize hh.2.2.2.choose=xs at h hc;exact ⟨hh.1,hh.2.1,hh.2.2.1,xs,hc.1,hc.2,(Option.some.inj h).symm⟩
 cases h
end
end Go.Am
