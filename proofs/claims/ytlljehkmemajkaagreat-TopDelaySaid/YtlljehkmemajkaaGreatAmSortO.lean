import Derived.Test.YtlljehkmemajkaaGreatAmLaw
import Derived.Shelf.SlSortCmp.NoneTotal
set_option linter.unusedSimpArgs false
set_option linter.unusedVariables false
namespace Go.Am
open Go
section
variable {w:World} {B m:Nat} {vs:Array Value} {e0:TypeId} {α:Type} [Inhabited α] {F:Array α} {e:α->Value} {os:Array Go.Obj}
theorem a3L (hB:w.heap[B]?=some (.cells vs e0 (0,0))) {b:Nat} (hb:b<w.heap.size) (hne:b≠B):(Sort.grow (Sort.putRow e (Sort.ahead w m) B 0 F) os).heap[b]?=w.heap[b]?:=by
 rw [Sort.heap_grow_old _ _ (by simpa using hb)];simp only [Sort.putRow,Sort.mapBlock,Array.getElem?_modify,Sort.heap_ahead];rw [if_neg (Ne.symm hne)]
theorem b1j (hB:w.heap[B]?=some (.cells vs e0 (0,0))) (hF:F.size<=vs.size) : ∃ vs1:Array Value,(Sort.grow (Sort.putRow e (Sort.ahead w m) B 0 F) os).heap[B]?=some (.cells vs1 e0 (0,0))/\vs1.size=vs.size /\ ∀ j,j<F.size->vs1.getD j Go.undef=e F[j]!:=by
 have hlt:B<w.heap.size:=(Array.getElem?_eq_some_iff.1 hB).1;refine ⟨Sort.putCells e 0 F vs,?_,by simp [Sort.putCells],fun j hj => ?_⟩
 ·rw [Sort.heap_grow_old _ _ (by simpa using hlt)];simp only [Sort.putRow,Sort.mapBlock,Array.getElem?_modify,Sort.heap_ahead,if_true,hB,Option.map_some,Sort.onCells]
 have hjv:j<vs.size:=by omega
 simp [Sort.putCells,zp5,hjv,hj]
theorem a9d:w.heap.size<=(Sort.grow (Sort.putRow e (Sort.ahead w m) B 0 F) os).heap.size:=by simp
theorem a9e (hB:w.heap[B]?=some (.cells vs e0 (0,0))) {x:Addr} {v:Value} (hx:w.cell? x=some v) (hne:x.block≠B):(Sort.grow (Sort.putRow e (Sort.ahead w m) B 0 F) os).cell? x=some v:=by
 have hb:=World.block_lt_of_cell? w _ hx;unfold World.cell? at hx ⊢;rw [a3L hB hb hne];exact hx
theorem b0a (hB:w.heap[B]?=some (.cells vs e0 (0,0))) (hF:F.size<=vs.size) {a:Addr} (ha:a.block<w.heap.size):(Sort.grow (Sort.putRow e (Sort.ahead w m) B 0 F) os).frozen? a=w.frozen? a:=by
 unfold World.frozen?;by_cases hne:a.block=B
 ·obtain ⟨vs1,h1,_,_⟩:=b1j (m:=m) (e:=e) (os:=os) hB hF;rw [hne,h1,hB]
 rw [a3L hB ha hne]
end
theorem b0b {w w':World} (hb : ∀ b,b<w.heap.size->w'.heap[b]?=w.heap[b]?) (hs:w.heap.size<=w'.heap.size) (h1:w'.os=w.os) (h2:w'.output=w.output) (h3:w'.tape=w.tape) (h4:w.drawn<=w'.drawn) :
  ∃ q os',w'=Sort.grow (w.drewN q) os':=by
 refine ⟨w'.drawn-w.drawn,w'.heap.extract w.heap.size w'.heap.size,?_⟩;have hheap:w'.heap=w.heap++w'.heap.extract w.heap.size w'.heap.size:=by
  apply Array.ext_getElem?;intro k;rw [Array.getElem?_append];split
  ·rename_i hk;exact hb k hk
  rename_i hk;rw [Array.getElem?_extract];split
  ·congr 1;omega
  rw [Array.getElem?_eq_none (by omega)]
 have hd:w'.drawn=w.drawn+(w'.drawn-w.drawn):=by omega
 cases w' with | mk heap tape drawn os output =>
 cases w with | mk heap0 tape0 drawn0 os0 output0 =>
 simp only [Sort.grow,World.drewN] at *;subst h1;subst h2;subst h3;rw [<-hheap,<-hd]
theorem b4O {P:Program} {g:FuncId} {caps:List AV} {x y:D} {r:Int} (hc:a0e P g ([.d x,.d y]++caps) [] (.d (.int .i64 r)) []) {G:Gh} {w W:World} (hG:Sane G) (hK : ∀ x v,G.K x=some v->W.cell? x=some v)
  {vx vy:Value} (hx:RepD G.K x vx) (hy:RepD G.K y vy) {vb:Array Value} (hb:vb.size=caps.length) (hcaps : ∀ (i:Nat) (hi:i<caps.length),RepV G w .no caps[i] (vb.getD i Go.undef)) (hi0:a3k 0 caps=true) (hl : ∀ c∈caps,c.isLocal=false) :
  Calls P g (#[vx,vy]++vb) W fun e w'=>e = .returned (.int .i64 r) /\ ∃ q os',w'=Sort.grow (W.drewN q) os':=by
 obtain ⟨_,_,_,_,_,h⟩:=hc;let G1:Gh:={ K:=G.K,O:=fun _=>none,β:=fun _=>0,nh:=0 };have RH:RelH G1 [] W:=⟨⟨fun b ℓ f h=>by cases h⟩,rfl,fun i ob h=>by simp at h,hK,fun b ℓ f h=>by cases h⟩;have hsub:Sub G G1 w W (fun ℓ=>ℓ = .no) 0:=⟨KLe.refl _,fun b ℓ f hl hO=>absurd (hl▸rfl) (hG.no b ℓ f hO),fun a ha=>absurd ha (Nat.not_lt_zero _),Nat.zero_le _⟩;have:=h 0 G1 W (#[vx,vy]++vb) (by simp [hb];omega) (fun i hi=>by
  match i,hi with
  | 0,_=>simpa [zp5,Array.getElem?_append] using RepV.d (G:=G1) (w:=W) .no x vx hx
  | 1,_=>simpa [zp5,Array.getElem?_append] using RepV.d (G:=G1) (w:=W) .no y vy hy
  | i+2,hi =>
    have hic:i<caps.length:=by simpa using hi
    have:=(hcaps i hic).sub hG hsub rfl (a0U hi0 i hic) (hl _ (zp6 hic));simpa [zp5,Array.getElem?_append,show ¬ i+2<2 by omega] using this) RH (fun b ℓ f h=>by cases h)
 have hw:CallsIn Fence.wide 0 P g (#[vx,vy]++vb) W _:=this;refine (callsIn_wide.1 hw).mono ?_;rintro e w' ⟨v,G',rfl,hv,_,hE⟩;cases hv with | d _ _ _ hv =>
 cases hv;exact ⟨rfl,b0b (fun b hb=>(hE.others b hb rfl).1) hE.size hE.io.1 hE.io.2.1 hE.io.2.2.2.1 hE.io.2.2.2.2⟩
theorem b6B {G:Gh} {H:List Obj} {w:World} (R:RelH G H w) {i k m:Nat} {l l':List D} (hi:H[i]?=some (.arr k l)) {vs:Array Value} {e0:TypeId} (hO:G.O (G.β (.o i))=some (.o i,0)) (hw:w.heap[G.β (.o i)]?=some (.cells vs e0 (0,0)))
  {α:Type} [Inhabited α] {F:Array α} {e:α->Value} {os:Array Go.Obj} (hF:F.size<=vs.size) (hu:a0k k l') (hlen:(D.flat l').length=F.size) (h1 : ∀ j,j<F.size->(e F[j]!).oneCell'=true) (hh : ∀ (j:Nat) (hj:j<(D.flat l').length),RepD G.K (D.flat l')[j] (e F[j]!)) :
  RelH G (H.set i (.arr k l')) (Sort.grow (Sort.putRow e (Sort.ahead w m) (G.β (.o i)) 0 F) os) /\ ∀ n,Ext n G w G (Sort.grow (Sort.putRow e (Sort.ahead w m) (G.β (.o i)) 0 F) os):=by
 have hil:i<H.length:=(zp2.1 hi).1;have hpr:Pres G G w (Sort.grow (Sort.putRow e (Sort.ahead w m) (G.β (.o i)) 0 F) os) (fun x=>x ≠ .o i) :=
  ⟨KLe.refl _,fun b' x f' hx h=>⟨h,a3L hw (R.disj _ _ _ h).1 (by rintro rfl;rw [hO] at h;simp at h;exact hx h.1.symm)⟩,fun _ _=>rfl,Nat.le_refl _⟩
 have hKb : ∀ x v,G.K x=some v->x.block≠G.β (.o i):=by
  intro x v hx hb;have hc:=R.kept x v hx;have hsp:x.spot=none:=by
   unfold World.cell? at hc;split at hc
   ·split at hc
    ·cases hc
    rename_i hsp;simpa using hsp
   cases hc
  have:=(R.disj _ _ _ hO).2 x.off (Nat.zero_le _);obtain ⟨xb,xo,xs⟩:=x;simp at hsp hb;subst hsp;subst hb;rw [this] at hx;cases hx
 obtain ⟨vs1,r1,r2,r3⟩:=b1j (m:=m) (e:=e) (os:=os) (F:=F) hw hF
 refine ⟨⟨R.sane,by simpa using R.nh,fun i' ob hob => ?_,fun x v hx=>a9e hw (R.kept x v hx) (hKb x v hx),fun b ℓ f h=>⟨Nat.lt_of_lt_of_le (R.disj b ℓ f h).1 a9d,(R.disj b ℓ f h).2⟩⟩,
  fun n=>⟨KLe.refl _,fun x v h => .inl h,fun b hb h=>⟨a3L hw hb (by rintro rfl;rw [hO] at h;cases h),h⟩,a9d,fun _ _=>rfl,rfl,rfl,fun a ha=>b0a hw hF ha,rfl,by simp [Sort.grow,Sort.putRow,Sort.mapBlock,Sort.ahead]⟩⟩
 by_cases hii:i=i'
 ·subst hii;rw [List.getElem?_set_self hil] at hob;injection hob with hob;subst hob
  exact ⟨vs1,e0,hO,r1,hu,by omega,fun j hj=>by rw [r3 j (by omega)];exact h1 j (by omega),fun j hj=>by rw [r3 j (by omega)];exact hh j hj⟩
 rw [List.getElem?_set_ne hii] at hob;exact (R.objs i' ob hob).pres R.sane (by rw [<-R.nh];exact (zp2.1 hob).1) hpr (by simp;exact fun e=>hii e.symm) (by simp)
theorem set_self {α:Type} : ∀ {l:List α} {i:Nat} {x:α},l[i]?=some x->l.set i x=l
 | [],_,_,h=>by simp at h
 | y::r,0,x,h=>by simp at h;simp [h]
 | y::r,i+1,x,h=>by simp at h;simp [set_self h]
theorem b0c {τ α:Type} [Inhabited α] {f:τ->τ->Option Int} {xs:List τ} (hc:CmpOk f xs) {lt:α->α->Bool} {p:α->τ} (hlt : ∀ a b,lt a b=ltF f (p a) (p b)) {d d':Array α} (hd:d.toList.map p=xs) (hP:Sort.PermIn 0 d.size d d') (hS:Sort.SortedIn lt 0 d.size d') :
  d'.toList.map p=xs.mergeSort fun x y => !ltF f y x:=by
 obtain ⟨hsz,_,hperm⟩:=hP;have e1:d'.extract 0 d.size=d':=by rw [<-hsz];exact Array.extract_size
 rw [e1,Array.extract_size] at hperm;have hpm:(d'.toList.map p).Perm xs:=by rw [<-hd];exact hperm.map p
 have hmem : ∀ x,x∈d'.toList.map p->x∈xs:=fun x hx=>hpm.mem_iff.1 hx;refine List.Perm.eq_of_pairwise (le:=fun x y=>x∈xs/\y∈xs/\(!ltF f y x)=true) ?_ ?_ ?_ (hpm.trans (List.mergeSort_perm _ _).symm)
 ·rintro a b _ _ ⟨ha,hb,h1⟩ ⟨_,_,h2⟩;simp only [Bool.not_eq_true'] at h1 h2;exact hc.tot a ha b hb h2 h1
 ·rw [List.pairwise_iff_getElem];intro i j hi hj hij;have hi':i<d'.size:=by simpa using hi
  have hj':j<d'.size:=by simpa using hj
  have:=hS i j (Nat.zero_le _) hij (by omega);rw [hlt,getElem!_pos d' i hi',getElem!_pos d' j hj'] at this;refine ⟨hmem _ (zp6 hi),hmem _ (zp6 hj),?_⟩;simpa using this
 ·have hall : ∀ a,a∈(xs.mergeSort fun x y => !ltF f y x)->a∈xs:=fun a ha=>(List.mergeSort_perm xs _).mem_iff.1 ha

  have key:(xs.attach.mergeSort fun x y => !ltF f y.1 x.1).map (·.1)=xs.mergeSort fun x y => !ltF f y x:=by
   have:=List.map_mergeSort (r:=fun (x y:{x // x∈xs}) => !ltF f y.1 x.1) (s:=fun x y => !ltF f y x) (f:=(·.1)) (l:=xs.attach) (fun a _ b _=>rfl);rw [this,List.attach_map_subtype_val]
  rw [<-key];rw [List.pairwise_map];have hp:=List.pairwise_mergeSort (le:=fun (x y:{x // x∈xs}) => !ltF f y.1 x.1) (fun a b c h1 h2=>by
    simp only [Bool.not_eq_true'] at h1 h2 ⊢;exact hc.ntr c.1 c.2 b.1 b.2 a.1 a.2 h2 h1) (fun a b=>by
    simp only [Bool.or_eq_true,Bool.not_eq_true'];cases h1:ltF f b.1 a.1 with
    | false=>exact .inl rfl
    | true =>
      cases h2:ltF f a.1 b.1 with
      | false=>exact .inr rfl
      | true =>
        have:=hc.tr b.1 b.2 a.1 a.2 b.1 b.2 h1 h2;rw [hc.irr b.1 b.2] at this;cases this) xs.attach
  exact hp.imp (fun {a b} h=>⟨a.2,b.2,h⟩)
theorem c1N {τ α:Type} {f:τ->τ->Option Int} {xs:List τ} (hc:CmpOk f xs) {cf:α->α->Int} {p:α->τ} (hp : ∀ a,p a∈xs) (hlt : ∀ a b,Go.Proofs.ltOf cf a b=ltF f (p a) (p b)):Sort.SWO (Go.Proofs.ltOf cf) where
 irrefl a:=by rw [hlt];exact hc.irr _ (hp a)
 trans a b c h1 h2:=by rw [hlt] at *;exact hc.tr _ (hp a) _ (hp b) _ (hp c) h1 h2
 ntrans a b c h1 h2:=by rw [hlt] at *;exact hc.ntr _ (hp a) _ (hp b) _ (hp c) h1 h2
theorem a6l {P:Program} {f:FuncId} (hc:callable P f=true) : ∀ (args:Array Value) (w:World),(callFunc f args).run P w = .ok (.enter f args) w:=fun args w=>a4Y hc args w
set_option maxHeartbeats 2000000 in
theorem a0e.sortOne {P:Program} {ρ:Go.Shelf.Ren} (L:Go.Proofs.SlLaysF.n6 P ρ) (hcb:callable P (ρ.f 6)=true)
  {τ:Type} {c:Cod τ} (hck : ∀ v,(c.en v).cells=[c.en v]) {f:τ->τ->Option Int} {g:FuncId} {caps:List AV}
  (hg:callable P g=true) (hf : ∀ x y r,f x y=some r->a0e P g ([.d (c.en x),.d (c.en y)]++caps) [] (.d (.int .i64 r)) []) (hcaps:a3k 0 caps=true) (hfree:caps.all AV.free=true)
  {lo n:Int} {l l':List D} (hsrt:srt c f lo n l=some l') {H:List Obj} {i:Nat} (hi:H[i]?=some (.arr 1 l)) (hin:a0s (H.set i (.arr 1 l')).length (H.set i (.arr 1 l'))=true) :
  a0e P (ρ.f 6) [.mref i 1 lo n,.func g [] caps] H (.tuple []) (H.set i (.arr 1 l')):=by
 refine ⟨hcb,rfl,rfl,hin,by simp,fun N G w vs hvs hrep RH hO => ?_⟩;obtain ⟨v0,v1,rfl⟩ : ∃ v0 v1,vs = #[v0,v1]:=by
  match vs,hvs with
  | ⟨[a,b]⟩,_=>exact ⟨a,b,rfl⟩
 have h0:=hrep 0 (by simp);have h1:=hrep 1 (by simp);simp at h0 h1;obtain ⟨rfl,hn,hn62,xs,hl,hcmp,hl'⟩:=c5t hsrt;cases h0 with | mref _ _ _ _ _ b off cap hnh hlo hn0 hcap hbo =>
 cases h1 with | func _ _ _ _ va vb hva hvb h2 h3 h4 h5 =>
 have hva':va = #[]:=by
  simp only [List.length_nil] at hva;exact Array.eq_empty_of_size_eq_zero hva
 subst hva';have hnl:n.toNat=l.length:=by omega
 by_cases hl0:l=[]
 ·subst hl0;have hxs:xs=[]:=by cases xs with | nil=>rfl | cons=>simp at hl
  subst hxs;have hl2:l'=[]:=by rw [hl'];simp
  subst hl2;rw [set_self hi];have hz:n.toNat=0:=by simpa using hnl
  rw [hz];have hw:CallsIn Fence.wide N P (ρ.f 6) #[.slice (some ⟨b,off,none⟩) 0 cap,.func (.func g) #[] vb] w _:=callsIn_wide.2 (Go.Proofs.AnyF.slices_SortFunc_none { L with } (some ⟨b,off,none⟩) cap _ w)
  refine CallsIn.mono (F:=Wd none) hw ?_;rintro e w' ⟨rfl,rfl⟩;exact ⟨_,G,rfl,.tuple _ _ _ rfl (fun i hi=>by simp at hi) (fun c hc=>by simp at hc),RH,Ext.refl _ _ _⟩
 have hlen:0<l.length:=List.length_pos_iff.2 hl0;obtain ⟨rfl,rfl⟩:=hbo (by omega);obtain ⟨cells,e0,o1,o2,hu,hsz,hone,hh⟩:=RH.objs i _ hi;have hfl:=a0b hu;have hlx:l.length=xs.length:=by rw [hl];simp
 have hflat : ∀ {m:List D} (ys:List τ),m=ys.map c.en->D.flat m=m:=by
  rintro m ys rfl
  induction ys with
  | nil=>rfl
  | cons y ys ih=>simp only [List.map_cons,D.flat,List.flatMap_cons] at ih ⊢;rw [hck,ih];rfl
 have hflx:D.flat l=l:=hflat xs hl;rw [hflx] at hsz hone;simp only [hflx] at hh;let α:={p:τ×Value // p.1∈xs/\RepD G.K (c.en p.1) p.2/\p.2.oneCell'=true};have hel : ∀ j (hj:j<xs.length),(xs[j],cells.getD j Go.undef).1∈xs/\RepD G.K (c.en xs[j]) (cells.getD j Go.undef)/\(cells.getD j Go.undef).oneCell'=true:=by
  intro j hj;refine ⟨zp6 hj,?_,?_⟩
  ·have h6:=hh j (by omega);have h7:l[j]'(by omega)=c.en xs[j]:=by simp [hl]
   rw [h7] at h6;exact h6
  exact hone j (by omega)
 let d:Array α:=Array.ofFn fun j:Fin xs.length=>⟨(xs[j.1],cells.getD j.1 Go.undef),hel j.1 j.2⟩
 haveI:Inhabited α:=⟨d[0]'(by simp [d];omega)⟩
 let enc:α->Value:=fun p=>p.1.2;let pr:α->τ:=fun p=>p.1.1;let cf:α->α->Int:=fun x y=>(f (pr x) (pr y)).getD 0;have hds:d.size=xs.length:=by simp [d]
 have hcf : ∀ x y:α,∃ r,f (pr x) (pr y)=some r/\cf x y=r:=fun x y=>by
  obtain ⟨r,hr⟩:=hcmp.some _ x.2.1 _ y.2.1;exact ⟨r,hr,by show (f (pr x) (pr y)).getD 0=r;rw [hr];rfl⟩
 have hlt : ∀ x y:α,Go.Proofs.ltOf cf x y=ltF f (pr x) (pr y):=fun x y=>by
  obtain ⟨r,h1,h2⟩:=hcf x y;show decide (cf x y<0)=_;rw [h2];unfold ltF;rw [h1]
 have hBlt:G.β (.o i)<w.heap.size:=(RH.disj _ _ _ o1).1;have henc1 : ∀ x:α,(enc x).oneCell'=true:=fun x=>x.2.2.2;have hkB : ∀ x v,G.K x=some v->x.block≠G.β (.o i):=by
  intro x v hx hb;have hc:=RH.kept x v hx;have hsp:x.spot=none:=by
   unfold World.cell? at hc;split at hc
   ·split at hc
    ·cases hc
    rename_i hsp;simpa using hsp
   cases hc
  have:=(RH.disj _ _ _ o1).2 x.off (Nat.zero_le _);obtain ⟨xb,xo,xs⟩:=x;simp at hsp hb;subst hsp;subst hb;rw [this] at hx;cases hx
 have hdj : ∀ j (hj:j<xs.length),d[j]! = ⟨(xs[j],cells.getD j Go.undef),hel j hj⟩:=fun j hj=>by
  rw [getElem!_pos d j (by omega)];simp [d]
 have hH:Go.Sort.Holds enc w (G.β (.o i)) 0 d:=by
  intro j hj;refine ⟨?_,?_⟩
  ·rw [hdj j (by omega),Nat.zero_add,a0V o2 (by omega)]
  unfold World.frozen?;simp [o2]
 have hfree' : ∀ c∈caps,c.free=true:=by simpa using hfree
 have hcmpL:Go.Proofs.CmpLays1 P g vb enc cf (G.β (.o i)) 0 d.size w:=by
  intro m os dk hdk x y;obtain ⟨r,hr,hrc⟩:=hcf x y;rw [hrc];exact b4O (hf _ _ r hr) RH.sane (w:=w) (W:=Go.Proofs.sortWorld enc w (G.β (.o i)) 0 m dk os)
   (fun z v hz=>a9e (F:=dk) (e:=enc) o2 (RH.kept z v hz) (hkB z v hz)) x.2.2.1 y.2.2.1 hvb h3 hcaps (fun c hc=>AV.free_isLocal (hfree' c hc))
 have hcon:=Go.Proofs.Any.slices_SortFunc L enc henc1 cf (c1N hcmp (p:=pr) (fun a=>a.2.1) hlt) g vb (G.β (.o i)) 0 cap d w (a6l hg) hcmpL hH hBlt (by omega);have hdn:d.size=n.toNat:=by omega
 have hw:CallsIn Fence.wide N P (ρ.f 6) #[.slice (some ⟨G.β (.o i),0,none⟩) d.size cap,.func (.func g) #[] vb] w _:=callsIn_wide.2 hcon;rw [hdn] at hw;have hoff:Int.toNat 0*1=0:=by simp
 rw [hoff];refine CallsIn.mono (F:=Wd none) hw ?_;rintro e w' ⟨rfl,d',m,os,hP,hS,rfl⟩;rw [<-hdn] at hP hS;have hdl:d.toList.map pr=xs:=by
  apply List.ext_getElem
  ·simp [hds]
  intro j h1 h2;simp [d,pr]
 have hsorted:=b0c hcmp (p:=pr) hlt hdl hP hS;have hsz':d'.size=d.size:=hP.1;have hl'':l'=(d'.toList.map pr).map c.en:=by
  rw [hl',<-hsorted]
 have hu':a0k 1 l':=by
  intro x hx;rw [hl''] at hx;obtain ⟨p,_,rfl⟩:=List.mem_map.1 hx;rw [hck];rfl
 have hfl':D.flat l'=l':=hflat _ hl'';have hll:l'.length=d'.size:=by rw [hl''];simp
 have hdone:=b6B (l':=l') (m:=m) (os:=os) RH hi o1 o2 (F:=d') (e:=enc) (by omega) hu' (by rw [hfl',hll]) (fun j hj=>henc1 _) (fun j hj=>by
   have hj':j<d'.size:=by rw [hfl',hll] at hj;exact hj
   have h7:(D.flat l')[j]'hj=c.en (pr d'[j]!):=by
    have:(D.flat l')[j]?=some (c.en (pr d'[j]!)):=by
     rw [hfl',hl'',getElem!_pos d' j hj'];simp [hj']
    rw [zp1 hj] at this;exact Option.some.inj this
   rw [h7];exact (d'[j]!).2.2.1)
 exact ⟨_,G,rfl,.tuple _ _ _ rfl (fun i hi=>by simp at hi) (fun c hc=>by simp at hc),hdone.1,hdone.2 _⟩
end Go.Am
