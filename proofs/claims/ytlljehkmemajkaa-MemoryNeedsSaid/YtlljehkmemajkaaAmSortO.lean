import Derived.Test.YtlljehkmemajkaaAmKeys
set_option linter.unusedSimpArgs false
set_option linter.unusedVariables false
namespace Go.Am
open Go
set_option maxHeartbeats 2000000 in
theorem a0h.sortOne {P:Program} {ρ:Go.Shelf.Ren} (L:Go.Proofs.SlLaysF.n6 P ρ) (hcb:callable P (ρ.f 6)=true)
  {τ:Type} {c:Cod τ} (hck : ∀ v,(c.en v).cells=[c.en v]) {f:τ->τ->Option Int} {g:FuncId} {caps:List AV}
  (hg:callable P g=true) (hf : ∀ x y r,f x y=some r->a0h P g ([.d (c.en x),.d (c.en y)]++caps) [] (.d (.int .i64 r)) []) (hcaps:a4e 0 caps=true) (hfree:caps.all AV.free=true)
  {lo n:Int} {l l':List D} (hsrt:srt c f lo n l=some l') {H:List Obj} {i:Nat} (hi:H[i]?=some (.arr 1 l)) (hin:a0v (H.set i (.arr 1 l')).length (H.set i (.arr 1 l'))=true) :
  a0h P (ρ.f 6) [.mref i 1 lo n,.func g [] caps] H (.tuple []) (H.set i (.arr 1 l')):=by
 refine ⟨hcb,rfl,rfl,hin,by simp,fun N G w vs hvs hrep RH hO => ?_⟩;obtain ⟨v0,v1,rfl⟩ : ∃ v0 v1,vs = #[v0,v1]:=by
  match vs,hvs with
  | ⟨[a,b]⟩,_=>exact ⟨a,b,rfl⟩
 have h0:=hrep 0 (by simp);have h1:=hrep 1 (by simp);simp at h0 h1;obtain ⟨rfl,hn,hn62,xs,hl,hcmp,hl'⟩:=c3j hsrt;cases h0 with | mref _ _ _ _ _ b off cap hnh hlo hn0 hcap hbo =>
 cases h1 with | func _ _ _ _ va vb hva hvb h2 h3 h4 h5 =>
 have hva':va = #[]:=by
  simp only [List.length_nil] at hva;exact Array.eq_empty_of_size_eq_zero hva
 subst hva';have hnl:n.toNat=l.length:=by omega
 by_cases hl0:l=[]
 ·subst hl0;have hxs:xs=[]:=by cases xs with | nil=>rfl | cons=>simp at hl
  subst hxs;have hl2:l'=[]:=by rw [hl'];simp
  subst hl2;rw [set_self hi];have hz:n.toNat=0:=by simpa using hnl
  rw [hz];have hw:CallsIn Fence.wide N P (ρ.f 6) #[.slice (some ⟨b,off,none⟩) 0 cap,.func (.func g) #[] vb] w _:=callsIn_wide.2 (Go.Proofs.AnyF.slices_SortFunc_none { L with } (some ⟨b,off,none⟩) cap _ w)
  refine CallsIn.mono (F:=Wd none) hw ?_;rintro e w' ⟨rfl,rfl⟩;exact ⟨_,G,rfl,.tuple _ _ _ rfl (fun i hi=>by simp at hi) (fun c hc=>by simp at hc),RH,Ext.refl _ _ _⟩
 have hlen:0<l.length:=List.length_pos_iff.2 hl0;obtain ⟨rfl,rfl⟩:=hbo (by omega);obtain ⟨cells,e0,o1,o2,hu,hsz,hone,hh⟩:=RH.objs i _ hi;have hfl:=a0b hu;have hlx:l.length=xs.length:=by rw [hl];simp
 have hflat : ∀ {m:List D} (ys:List τ),m=ys.map c.en->D.flat m=m:=by
  rintro m ys rfl
  induction ys with
  | nil=>rfl
  | cons y ys ih=>simp only [List.map_cons,D.flat,List.flatMap_cons] at ih ⊢;rw [hck,ih];rfl
 have hflx:D.flat l=l:=hflat xs hl;rw [hflx] at hsz hone;simp only [hflx] at hh;let α:={p:τ×Value // p.1∈xs/\RepD G.K (c.en p.1) p.2/\p.2.oneCell'=true};have hel : ∀ j (hj:j<xs.length),(xs[j],cells.getD j Go.undef).1∈xs/\RepD G.K (c.en xs[j]) (cells.getD j Go.undef)/\(cells.getD j Go.undef).oneCell'=true:=by
  intro j hj;refine ⟨zp6 hj,?_,?_⟩
  ·have h6:=hh j (by omega);have h7:l[j]'(by omega)=c.en xs[j]:=by simp [hl]
   rw [h7] at h6;exact h6
  exact hone j (by omega)
 let d:Array α:=Array.ofFn fun j:Fin xs.length=>⟨(xs[j.1],cells.getD j.1 Go.undef),hel j.1 j.2⟩
 haveI:Inhabited α:=⟨d[0]'(by simp [d];omega)⟩
 let enc:α->Value:=fun p=>p.1.2;let pr:α->τ:=fun p=>p.1.1;let cf:α->α->Int:=fun x y=>(f (pr x) (pr y)).getD 0;have hds:d.size=xs.length:=by simp [d]
 have hcf : ∀ x y:α,∃ r,f (pr x) (pr y)=some r/\cf x y=r:=fun x y=>by
  obtain ⟨r,hr⟩:=hcmp.some _ x.2.1 _ y.2.1;exact ⟨r,hr,by show (f (pr x) (pr y)).getD 0=r;rw [hr];rfl⟩
 have hlt : ∀ x y:α,Go.Proofs.ltOf cf x y=ltF f (pr x) (pr y):=fun x y=>by
  obtain ⟨r,h1,h2⟩:=hcf x y;show decide (cf x y<0)=_;rw [h2];unfold ltF;rw [h1]
 have hBlt:G.β (.o i)<w.heap.size:=(RH.disj _ _ _ o1).1;have henc1 : ∀ x:α,(enc x).oneCell'=true:=fun x=>x.2.2.2;have hkB : ∀ x v,G.K x=some v->x.block≠G.β (.o i):=by
  intro x v hx hb;have hc:=RH.kept x v hx;have hsp:x.spot=none:=by
   unfold World.cell? at hc;split at hc
   ·split at hc
    ·cases hc
    rename_i hsp;simpa using hsp
   cases hc
  have:=(RH.disj _ _ _ o1).2 x.off (Nat.zero_le _);obtain ⟨xb,xo,xs⟩:=x;simp at hsp hb;subst hsp;subst hb;rw [this] at hx;cases hx
 have hdj : ∀ j (hj:j<xs.length),d[j]! = ⟨(xs[j],cells.getD j Go.undef),hel j hj⟩:=fun j hj=>by
  rw [getElem!_pos d j (by omega)];simp [d]
 have hH:Go.Sort.Holds enc w (G.β (.o i)) 0 d:=by
  intro j hj;refine ⟨?_,?_⟩
  ·rw [hdj j (by omega),Nat.zero_add,a0P o2 (by omega)]
  unfold World.frozen?;simp [o2]
 have hfree' : ∀ c∈caps,c.free=true:=by simpa using hfree
 have hcmpL:Go.Proofs.CmpLays1 P g vb enc cf (G.β (.o i)) 0 d.size w:=by
  intro m os dk hdk x y;obtain ⟨r,hr,hrc⟩:=hcf x y;rw [hrc];exact b4h (hf _ _ r hr) RH.sane (w:=w) (W:=Go.Proofs.sortWorld enc w (G.β (.o i)) 0 m dk os)
   (fun z v hz=>a9n (F:=dk) (e:=enc) o2 (RH.kept z v hz) (hkB z v hz)) x.2.2.1 y.2.2.1 hvb h3 hcaps (fun c hc=>AV.free_isLocal (hfree' c hc))
 have hcon:=Go.Proofs.Any.slices_SortFunc L enc henc1 cf (c0n hcmp (p:=pr) (fun a=>a.2.1) hlt) g vb (G.β (.o i)) 0 cap d w (a6c hg) hcmpL hH hBlt (by omega);have hdn:d.size=n.toNat:=by omega
 have hw:CallsIn Fence.wide N P (ρ.f 6) #[.slice (some ⟨G.β (.o i),0,none⟩) d.size cap,.func (.func g) #[] vb] w _:=callsIn_wide.2 hcon;rw [hdn] at hw;have hoff:Int.toNat 0*1=0:=by simp
 rw [hoff];refine CallsIn.mono (F:=Wd none) hw ?_;rintro e w' ⟨rfl,d',m,os,hP,hS,rfl⟩;rw [<-hdn] at hP hS;have hdl:d.toList.map pr=xs:=by
  apply List.ext_getElem
  ·simp [hds]
  intro j h1 h2;simp [d,pr]
 have hsorted:=b0a hcmp (p:=pr) hlt hdl hP hS;have hsz':d'.size=d.size:=hP.1;have hl'':l'=(d'.toList.map pr).map c.en:=by
  rw [hl',<-hsorted]
 have hu':a0m 1 l':=by
  intro x hx;rw [hl''] at hx;obtain ⟨p,_,rfl⟩:=List.mem_map.1 hx;rw [hck];rfl
 have hfl':D.flat l'=l':=hflat _ hl'';have hll:l'.length=d'.size:=by rw [hl''];simp
 have hdone:=b5H (l':=l') (m:=m) (os:=os) RH hi o1 o2 (F:=d') (e:=enc) (by omega) hu' (by rw [hfl',hll]) (fun j hj=>henc1 _) (fun j hj=>by
   have hj':j<d'.size:=by rw [hfl',hll] at hj;exact hj
   have h7:(D.flat l')[j]'hj=c.en (pr d'[j]!):=by
    have:(D.flat l')[j]?=some (c.en (pr d'[j]!)):=by
     rw [hfl',hl'',getElem!_pos d' j hj'];simp [hj']
    rw [zp1 hj] at this;exact Option.some.inj this
   rw [h7];exact (d'[j]!).2.2.1)
 exact ⟨_,G,rfl,.tuple _ _ _ rfl (fun i hi=>by simp at hi) (fun c hc=>by simp at hc),hdone.1,hdone.2 _⟩
end Go.Am
