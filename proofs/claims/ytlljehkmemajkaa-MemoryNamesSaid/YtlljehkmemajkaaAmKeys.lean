import Derived.Test.YtlljehkmemajkaaAmSrt
import Derived.Shelf.SlSortCmp.NoneTotal
import Derived.Test.YtlljehkmemajkaaAmDrn
import Derived.Shelf.SlIterI.Sorted
import Derived.Shelf.SortM.Plain
import Derived.Shelf.SortM.SortNone
set_option linter.unusedSimpArgs false
set_option linter.unusedVariables false
namespace Go.Am
open Go
section
variable {w:World} {B m:Nat} {vs:Array Value} {e0:TypeId} {α:Type} [Inhabited α] {F:Array α} {e:α->Value} {os:Array Go.Obj}
theorem a3h (hB:w.heap[B]?=some (.cells vs e0 (0,0))) {b:Nat} (hb:b<w.heap.size) (hne:b≠B):(Sort.grow (Sort.putRow e (Sort.ahead w m) B 0 F) os).heap[b]?=w.heap[b]?:=by
 rw [Sort.heap_grow_old _ _ (by simpa using hb)];simp only [Sort.putRow,Sort.mapBlock,Array.getElem?_modify,Sort.heap_ahead];rw [if_neg (Ne.symm hne)]
theorem a9N (hB:w.heap[B]?=some (.cells vs e0 (0,0))) (hF:F.size<=vs.size) : ∃ vs1:Array Value,(Sort.grow (Sort.putRow e (Sort.ahead w m) B 0 F) os).heap[B]?=some (.cells vs1 e0 (0,0))/\vs1.size=vs.size /\ ∀ j,j<F.size->vs1.getD j Go.undef=e F[j]!:=by
 have hlt:B<w.heap.size:=(Array.getElem?_eq_some_iff.1 hB).1;refine ⟨Sort.putCells e 0 F vs,?_,by simp [Sort.putCells],fun j hj => ?_⟩
 ·rw [Sort.heap_grow_old _ _ (by simpa using hlt)];simp only [Sort.putRow,Sort.mapBlock,Array.getElem?_modify,Sort.heap_ahead,if_true,hB,Option.map_some,Sort.onCells]
 have hjv:j<vs.size:=by omega
 simp [Sort.putCells,zp5,hjv,hj]
theorem a8h:w.heap.size<=(Sort.grow (Sort.putRow e (Sort.ahead w m) B 0 F) os).heap.size:=by simp
theorem a8i (hB:w.heap[B]?=some (.cells vs e0 (0,0))) {x:Addr} {v:Value} (hx:w.cell? x=some v) (hne:x.block≠B):(Sort.grow (Sort.putRow e (Sort.ahead w m) B 0 F) os).cell? x=some v:=by
 have hb:=World.block_lt_of_cell? w _ hx;unfold World.cell? at hx ⊢;rw [a3h hB hb hne];exact hx
theorem a8Y (hB:w.heap[B]?=some (.cells vs e0 (0,0))) (hF:F.size<=vs.size) {a:Addr} (ha:a.block<w.heap.size):(Sort.grow (Sort.putRow e (Sort.ahead w m) B 0 F) os).frozen? a=w.frozen? a:=by
 unfold World.frozen?;by_cases hne:a.block=B
 ·obtain ⟨vs1,h1,_,_⟩:=a9N (m:=m) (e:=e) (os:=os) hB hF;rw [hne,h1,hB]
 rw [a3h hB ha hne]
end
theorem a8Z {w w':World} (hb : ∀ b,b<w.heap.size->w'.heap[b]?=w.heap[b]?) (hs:w.heap.size<=w'.heap.size) (h1:w'.os=w.os) (h2:w'.output=w.output) (h3:w'.tape=w.tape) (h4:w.drawn<=w'.drawn) :
  ∃ q os',w'=Sort.grow (w.drewN q) os':=by
 refine ⟨w'.drawn-w.drawn,w'.heap.extract w.heap.size w'.heap.size,?_⟩;have hheap:w'.heap=w.heap++w'.heap.extract w.heap.size w'.heap.size:=by
  apply Array.ext_getElem?;intro k;rw [Array.getElem?_append];split
  ·rename_i hk;exact hb k hk
  rename_i hk;rw [Array.getElem?_extract];split
  ·congr 1;omega
  rw [Array.getElem?_eq_none (by omega)]
 have hd:w'.drawn=w.drawn+(w'.drawn-w.drawn):=by omega
 cases w' with | mk heap tape drawn os output =>
 cases w with | mk heap0 tape0 drawn0 os0 output0 =>
 simp only [Sort.grow,World.drewN] at *;subst h1;subst h2;subst h3;rw [<-hheap,<-hd]
theorem b2I {P:Program} {g:FuncId} {caps:List AV} {x y:D} {r:Int} (hc:a0m P g ([.d x,.d y]++caps) [] (.d (.int .i64 r)) []) {G:Gh} {w W:World} (hG:Sane G) (hK : ∀ x v,G.K x=some v->W.cell? x=some v)
  {vx vy:Value} (hx:RepD G.K x vx) (hy:RepD G.K y vy) {vb:Array Value} (hb:vb.size=caps.length) (hcaps : ∀ (i:Nat) (hi:i<caps.length),RepV G w .no caps[i] (vb.getD i Go.undef)) (hi0:a4r 0 caps=true) (hl : ∀ c∈caps,c.isLocal=false) :
  Calls P g (#[vx,vy]++vb) W fun e w'=>e = .returned (.int .i64 r) /\ ∃ q os',w'=Sort.grow (W.drewN q) os':=by
 obtain ⟨_,_,_,_,_,h⟩:=hc;let G1:Gh:={ K:=G.K,O:=fun _=>none,β:=fun _=>0,nh:=0 };have RH:RelH G1 [] W:=⟨⟨fun b ℓ f h=>by cases h⟩,rfl,fun i ob h=>by simp at h,hK,fun b ℓ f h=>by cases h⟩;have hsub:Sub G G1 w W (fun ℓ=>ℓ = .no) 0:=⟨KLe.refl _,fun b ℓ f hl hO=>absurd (hl▸rfl) (hG.no b ℓ f hO),fun a ha=>absurd ha (Nat.not_lt_zero _),Nat.zero_le _⟩;have:=h 0 G1 W (#[vx,vy]++vb) (by simp [hb];omega) (fun i hi=>by
  match i,hi with
  | 0,_=>simpa [zp5,Array.getElem?_append] using RepV.d (G:=G1) (w:=W) .no x vx hx
  | 1,_=>simpa [zp5,Array.getElem?_append] using RepV.d (G:=G1) (w:=W) .no y vy hy
  | i+2,hi =>
    have hic:i<caps.length:=by simpa using hi
    have:=(hcaps i hic).sub hG hsub rfl (a0T hi0 i hic) (hl _ (zp6 hic));simpa [zp5,Array.getElem?_append,show ¬ i+2<2 by omega] using this) RH (fun b ℓ f h=>by cases h)
 have hw:CallsIn Fence.wide 0 P g (#[vx,vy]++vb) W _:=this;refine (callsIn_wide.1 hw).mono ?_;rintro e w' ⟨v,G',rfl,hv,_,hE⟩;cases hv with | d _ _ _ hv =>
 cases hv;exact ⟨rfl,a8Z (fun b hb=>(hE.others b hb rfl).1) hE.size hE.io.1 hE.io.2.1 hE.io.2.2.2.1 hE.io.2.2.2.2⟩
theorem b3Y {G:Gh} {H:List Obj} {w:World} (R:RelH G H w) {i k m:Nat} {l l':List D} (hi:H[i]?=some (.arr k l)) {vs:Array Value} {e0:TypeId} (hO:G.O (G.β (.o i))=some (.o i,0)) (hw:w.heap[G.β (.o i)]?=some (.cells vs e0 (0,0)))
  {α:Type} [Inhabited α] {F:Array α} {e:α->Value} {os:Array Go.Obj} (hF:F.size<=vs.size) (hu:a0k k l') (hlen:(D.flat l').length=F.size) (h1 : ∀ j,j<F.size->(e F[j]!).oneCell'=true) (hh : ∀ (j:Nat) (hj:j<(D.flat l').length),RepD G.K (D.flat l')[j] (e F[j]!)) :
  RelH G (H.set i (.arr k l')) (Sort.grow (Sort.putRow e (Sort.ahead w m) (G.β (.o i)) 0 F) os) /\ ∀ n,Ext n G w G (Sort.grow (Sort.putRow e (Sort.ahead w m) (G.β (.o i)) 0 F) os):=by
 have hil:i<H.length:=(zp2.1 hi).1;have hpr:Pres G G w (Sort.grow (Sort.putRow e (Sort.ahead w m) (G.β (.o i)) 0 F) os) (fun x=>x ≠ .o i) :=
  ⟨KLe.refl _,fun b' x f' hx h=>⟨h,a3h hw (R.disj _ _ _ h).1 (by rintro rfl;rw [hO] at h;simp at h;exact hx h.1.symm)⟩,fun _ _=>rfl,Nat.le_refl _⟩
 have hKb : ∀ x v,G.K x=some v->x.block≠G.β (.o i):=by
  intro x v hx hb;have hc:=R.kept x v hx;have hsp:x.spot=none:=by
   unfold World.cell? at hc;split at hc
   ·split at hc
    ·cases hc
    rename_i hsp;simpa using hsp
   cases hc
  have:=(R.disj _ _ _ hO).2 x.off (Nat.zero_le _);obtain ⟨xb,xo,xs⟩:=x;simp at hsp hb;subst hsp;subst hb;rw [this] at hx;cases hx
 obtain ⟨vs1,r1,r2,r3⟩:=a9N (m:=m) (e:=e) (os:=os) (F:=F) hw hF
 refine ⟨⟨R.sane,by simpa using R.nh,fun i' ob hob => ?_,fun x v hx=>a8i hw (R.kept x v hx) (hKb x v hx),fun b ℓ f h=>⟨Nat.lt_of_lt_of_le (R.disj b ℓ f h).1 a8h,(R.disj b ℓ f h).2⟩⟩,
  fun n=>⟨KLe.refl _,fun x v h => .inl h,fun b hb h=>⟨a3h hw hb (by rintro rfl;rw [hO] at h;cases h),h⟩,a8h,fun _ _=>rfl,rfl,rfl,fun a ha=>a8Y hw hF ha,rfl,by simp [Sort.grow,Sort.putRow,Sort.mapBlock,Sort.ahead]⟩⟩
 by_cases hii:i=i'
 ·subst hii;rw [List.getElem?_set_self hil] at hob;injection hob with hob;subst hob
  exact ⟨vs1,e0,hO,r1,hu,by omega,fun j hj=>by rw [r3 j (by omega)];exact h1 j (by omega),fun j hj=>by rw [r3 j (by omega)];exact hh j hj⟩
 rw [List.getElem?_set_ne hii] at hob;exact (R.objs i' ob hob).pres R.sane (by rw [<-R.nh];exact (zp2.1 hob).1) hpr (by simp;exact fun e=>hii e.symm) (by simp)
theorem set_self {α:Type} : ∀ {l:List α} {i:Nat} {x:α},l[i]?=some x->l.set i x=l
 | [],_,_,h=>by simp at h
 | y::r,0,x,h=>by simp at h;simp [h]
 | y::r,i+1,x,h=>by simp at h;simp [set_self h]
theorem a9a {τ α:Type} [Inhabited α] {f:τ->τ->Option Int} {xs:List τ} (hc:CmpOk f xs) {lt:α->α->Bool} {p:α->τ} (hlt : ∀ a b,lt a b=ltF f (p a) (p b)) {d d':Array α} (hd:d.toList.map p=xs) (hP:Sort.PermIn 0 d.size d d') (hS:Sort.SortedIn lt 0 d.size d') :
  d'.toList.map p=xs.mergeSort fun x y => !ltF f y x:=by
 obtain ⟨hsz,_,hperm⟩:=hP;have e1:d'.extract 0 d.size=d':=by rw [<-hsz];exact Array.extract_size
 rw [e1,Array.extract_size] at hperm;have hpm:(d'.toList.map p).Perm xs:=by rw [<-hd];exact hperm.map p
 have hmem : ∀ x,x∈d'.toList.map p->x∈xs:=fun x hx=>hpm.mem_iff.1 hx;refine List.Perm.eq_of_pairwise (le:=fun x y=>x∈xs/\y∈xs/\(!ltF f y x)=true) ?_ ?_ ?_ (hpm.trans (List.mergeSort_perm _ _).symm)
 ·rintro a b _ _ ⟨ha,hb,h1⟩ ⟨_,_,h2⟩;simp only [Bool.not_eq_true'] at h1 h2;exact hc.tot a ha b hb h2 h1
 ·rw [List.pairwise_iff_getElem];intro i j hi hj hij;have hi':i<d'.size:=by simpa using hi
  have hj':j<d'.size:=by simpa using hj
  have:=hS i j (Nat.zero_le _) hij (by omega);rw [hlt,getElem!_pos d' i hi',getElem!_pos d' j hj'] at this;refine ⟨hmem _ (zp6 hi),hmem _ (zp6 hj),?_⟩;simpa using this
 ·have hall : ∀ a,a∈(xs.mergeSort fun x y => !ltF f y x)->a∈xs:=fun a ha=>(List.mergeSort_perm xs _).mem_iff.1 ha

  have key:(xs.attach.mergeSort fun x y => !ltF f y.1 x.1).map (·.1)=xs.mergeSort fun x y => !ltF f y x:=by
   have:=List.map_mergeSort (r:=fun (x y:{x // x∈xs}) => !ltF f y.1 x.1) (s:=fun x y => !ltF f y x) (f:=(·.1)) (l:=xs.attach) (fun a _ b _=>rfl);rw [this,List.attach_map_subtype_val]
  rw [<-key];rw [List.pairwise_map];have hp:=List.pairwise_mergeSort (le:=fun (x y:{x // x∈xs}) => !ltF f y.1 x.1) (fun a b c h1 h2=>by
    simp only [Bool.not_eq_true'] at h1 h2 ⊢;exact hc.ntr c.1 c.2 b.1 b.2 a.1 a.2 h2 h1) (fun a b=>by
    simp only [Bool.or_eq_true,Bool.not_eq_true'];cases h1:ltF f b.1 a.1 with
    | false=>exact .inl rfl
    | true =>
      cases h2:ltF f a.1 b.1 with
      | false=>exact .inr rfl
      | true =>
        have:=hc.tr b.1 b.2 a.1 a.2 b.1 b.2 h1 h2;rw [hc.irr b.1 b.2] at this;cases this) xs.attach
  exact hp.imp (fun {a b} h=>⟨a.2,b.2,h⟩)
theorem b7J {τ α:Type} {f:τ->τ->Option Int} {xs:List τ} (hc:CmpOk f xs) {cf:α->α->Int} {p:α->τ} (hp : ∀ a,p a∈xs) (hlt : ∀ a b,Go.Proofs.ltOf cf a b=ltF f (p a) (p b)):Sort.SWO (Go.Proofs.ltOf cf) where
 irrefl a:=by rw [hlt];exact hc.irr _ (hp a)
 trans a b c h1 h2:=by rw [hlt] at *;exact hc.tr _ (hp a) _ (hp b) _ (hp c) h1 h2
 ntrans a b c h1 h2:=by rw [hlt] at *;exact hc.ntr _ (hp a) _ (hp b) _ (hp c) h1 h2
theorem a2d {P:Program} {f:FuncId} (hc:callable P f=true) : ∀ (args:Array Value) (w:World),(callFunc f args).run P w = .ok (.enter f args) w:=fun args w=>a7R hc args w
end Go.Am

namespace Go.Am
open Go Go.Proofs Go.Maps
theorem CallsIn.drawn {F:Fence} {n:Nat} {P:Program} {f:FuncId} {args:Array Value} {w:World} {R:Ending->World->Prop} (h:CallsIn F n P f args w R) (hr : ∀ e w',R e w' -> ∃ v,e = .returned v) :
  CallsIn F n P f args w fun e w'=>R e w'/\w.drawn<=w'.drawn:=by
 refine ⟨h.1,fun cs hc => ?_⟩;obtain ⟨e,w',fr,h1,h2,h3,h4⟩:=h.2 cs hc;obtain ⟨v,rfl⟩:=hr e w' h1;have hs:StepsIn (Machine.fenced P F) P (lone (Frame.enter P f args .normal) cs w) (lone fr cs w'):=h2;exact ⟨_,w',fr,⟨h1,StepsIn.drawn hs⟩,h2,h3,h4⟩
theorem noE {α β:Type} {a r:β} {f:α->β} (h:(none:Option α).elim a f=r):a=r:=h
theorem soE {α β:Type} {a r:β} {x:α} {f:α->β} (h:(some x).elim a f=r):f x=r:=h
def a2e:D->Int
 | .int _ n=>n
 | _=>0
def b2J:D->Bool
 | .int .i64 n=>decide (-9223372036854775808<=n)&&decide (n<9223372036854775808)
 | _=>false
def b2K (es:List (D×D)):Option (List D) :=
 if es.length<4294967296/\(es.all fun p=>b2J p.1)=true/\(es.map fun p=>a2e p.1).Nodup then some (((es.map fun p=>a2e p.1).mergeSort fun x y=>decide (x<=y)).map (.int .i64)) else none
theorem b7K {d:D} (h:b2J d=true):d = .int .i64 (a2e d) /\ -9223372036854775808<=a2e d/\a2e d<9223372036854775808:=by
 unfold b2J at h;split at h
 ·rw [zp4,decide_eq_true_eq,decide_eq_true_eq] at h;exact ⟨rfl,h⟩
 cases h
theorem b3Z {K:Addr->Option Value} {ks:List CK} : ∀ {es:List (D×D)} {ms:List MapEntry},EntRep K false ks es ms->(es.all fun p=>b2J p.1)=true ->
  ms.map (·.key)=es.map (fun p=>Value.int .i64 (a2e p.1)) /\ ∀ x∈ms,∃ n,x.key = .int .i64 n /\ -9223372036854775808<=n/\n<9223372036854775808:=by
 intro es ms h
 induction h with
 | nil=>exact fun _=>⟨rfl,fun x hx=>by cases hx⟩
 | @cons p m es ms hp h ih =>
   intro hall;rw [List.all_cons,zp4] at hall;obtain ⟨h1,h2⟩:=ih hall.2;obtain ⟨k1,k2,k3⟩:=b7K hall.1;have hk:m.key = .int .i64 (a2e p.1):=by
    rw [hp.2.1,k1]
    rfl
   refine ⟨by rw [List.map_cons,List.map_cons,h1,hk],fun x hx => ?_⟩;rcases List.mem_cons.1 hx with rfl | hx
   ·exact ⟨_,hk,k2,k3⟩
   exact h2 x hx
theorem b4a {K:Addr->Option Value} {agg:Bool} {ks:List CK} {es:List (D×D)} {ms:List MapEntry} (h:EntRep K agg ks es ms):ms.length=es.length:=by
 induction h with
 | nil=>rfl
 | cons _ _ ih=>simp [ih]
theorem a8j : ∀ zs:List Int,D.flat (zs.map (.int .i64))=zs.map (.int .i64)
 | []=>rfl
 | z::zs=>by
   have ih:=a8j zs;simp only [List.map_cons,D.flat,List.flatMap_cons] at ih ⊢;rw [ih];rfl
theorem a0m.sortedKeys {P:Program} {ρ ρk ρs:Go.Shelf.Ren} (L:SlLaysZI.n6 P ρ) (Lk:SlLaysZI.n10 P ρk) (Ls:SlLaysM.n5 P ρs) (hs:ρ.f 9=ρs.f 5) (hcb:callable P (ρ.f 6)=true) (hc9:callable P (ρ.f 9)=true) (hck:callable P (ρk.f 10)=true)
  {H:List Obj} {a c:Nat} {es:List (D×D)} {ks:List CK} {l:List D} (ha:H[a]?=some (.map false ks es)) (hc:H[c]?=some (.cells [.map a])) (hl:b2K es=some l) (hin:a0v H.length H=true) :
  a0m P (ρ.f 6) [.func (ρk.f 10) [] [.ptr c 0]] H (.d (.list 1 l)) H:=by
 unfold b2K at hl;split at hl
 rotate_left
 ·cases hl
 rename_i hk;obtain ⟨hlen,hok,hnd⟩:=hk;cases hl;refine ⟨hcb,rfl,rfl,hin,Nat.le_refl _,fun N G w vs hvs hrep RH hO => ?_⟩;obtain ⟨v0,rfl⟩ : ∃ v0,vs = #[v0]:=by
  match vs,hvs with
  | ⟨[x]⟩,_=>exact ⟨x,rfl⟩
 have h0:=hrep 0 (by simp);simp at h0;cases h0 with | func _ _ _ _ va vb hva hvb h2 h3 h4 h5 =>
 have hva':va = #[]:=Array.eq_empty_of_size_eq_zero (by simpa using hva);subst hva';obtain ⟨v1,rfl⟩ : ∃ v1,vb = #[v1]:=by
  match vb,hvb with
  | ⟨[x]⟩,_=>exact ⟨x,rfl⟩
 have h6:=h3 0 (by simp);simp at h6;cases h6 with | ptr _ _ _ hca =>

 obtain ⟨cv,ce,c1,c2,c3,c4,_⟩:=RH.objs c _ hc;have c5:RepV G w (.oc c 0) (.map a) (cv.getD 0 Go.undef):=c4 0 (by simp);generalize hcv:cv.getD 0 Go.undef=q at c5;have c3':cv.size=1:=by simpa using c3
 have hq:cv[0]?=some q:=by
  rw [<-hcv,zp5,Array.getElem?_eq_getElem (by omega)];rfl
 have hcell:w.cell? ⟨G.β (.o c),0,none⟩=some q:=by
  unfold World.cell?;rw [c2];exact hq
 cases c5 with | map _ _ hna =>
 have hBm:G.β (.o c)<w.heap.size:=(RH.disj _ _ _ c1).1

 obtain ⟨ms,clock,m1,m2,m3,m4⟩:=RH.objs a _ ha;have hms:ms.size=es.length:=by
  have:=b4a m3;simpa using this
 obtain ⟨k1,k2⟩:=b3Z m3 hok;have hku:P.underlying (ρk.t 26)=some (.int .i64):=Lk.t26;let R:Value->Option (DataW Unit×List MemPlace):=fun _=>some (.nil,[]);have hrd : ∀ x∈ms.toList,∃ n,x.key = .int .i64 n/\Go.WideElems.rd P (ρk.t 26) R x=some (.int .i64 n,.nil):=by
  intro x hx;obtain ⟨n,e1,e2,e3⟩:=k2 x hx;refine ⟨n,e1,?_⟩;have hwf:(Lit.int .i64 n).wf=true:=by
   simp [Lit.wf,IntKind.min,IntKind.max,IntKind.signed,IntKind.bits];omega
  unfold Go.WideElems.rd;rw [e1];simp [keyOf,hku,mapKey,hwf,R]
 have hfit:Go.WideElems.Fit P (ρk.t 26) R ms clock:=by
  refine ⟨?_,⟨?_,?_,?_⟩,fun x hx => ?_⟩
  ·rw [hms];have:maxLen=9223372036854775807:=by decide +kernel
   omega
  ·intro x hx;obtain ⟨j,hj,e⟩:=Array.mem_iff_getElem.1 (Array.mem_toList_iff.1 hx);have:=m4.2 j x (by rw [Array.getElem?_eq_getElem hj,e]);rw [this,m4.1];exact hj
  ·have e:ms.toList.map (·.born)=List.range ms.size:=by
    apply List.ext_getElem
    ·simp
    intro j h1 h2;have hj:j<ms.size:=by simpa using h1
    have:=m4.2 j ms[j] (Array.getElem?_eq_getElem hj);simp [this]
   rw [e];exact List.nodup_range
  ·rw [k1];have:es.map (fun p=>Value.int .i64 (a2e p.1))=(es.map fun p=>a2e p.1).map (Value.int .i64):=by rw [List.map_map];rfl
   rw [this,List.Nodup,List.pairwise_map];exact List.Pairwise.imp (fun hne e=>hne (by injection e)) hnd
  obtain ⟨n,_,h⟩:=hrd x hx;exact ⟨_,h⟩
 have hown:w.ownsMap P (ρk.t 26) R (G.β (.o a)) ms.size (.map ((ms.toList.map (Go.WideElems.rg P (ρk.t 26) R)).foldr DataW.insert [])):=⟨ms,clock,m2,hfit,Nat.le_refl _,rfl⟩;have hrg:(ms.toList.map (Go.WideElems.rg P (ρk.t 26) R)).map (fun p=>intOf p.1)=es.map fun p=>a2e p.1:=by
  have e1:(ms.toList.map (Go.WideElems.rg P (ρk.t 26) R)).map (fun p=>intOf p.1)=ms.toList.map fun x=>match x.key with | .int _ n=>n | _=>0:=by
   rw [List.map_map];refine List.map_congr_left fun x hx => ?_;obtain ⟨n,h1,h2⟩:=hrd x hx;show intOf (Go.WideElems.rg P (ρk.t 26) R x).1=_;unfold Go.WideElems.rg;rw [h2,h1];rfl
  rw [e1];have e2:=congrArg (List.map fun v:Value=>match v with | .int _ n=>n | _=>0) k1
  rw [List.map_map,List.map_map] at e2;exact e2
 have hkeys:(intKeys (.map ((ms.toList.map (Go.WideElems.rg P (ρk.t 26) R)).foldr DataW.insert []):DataW Unit)).Perm (es.map fun p=>a2e p.1):=by
  show ((List.foldr DataW.insert [] (ms.toList.map (Go.WideElems.rg P (ρk.t 26) R))).map fun p=>intOf p.1).Perm _;rw [<-hrg];exact (Go.WideShapes.sorted_perm _).map _
 have hsize:Maps.size (.map ((ms.toList.map (Go.WideElems.rg P (ρk.t 26) R)).foldr DataW.insert []):DataW Unit)=es.length:=by
  show (List.foldr DataW.insert [] _).length=_;rw [length_sorted,List.length_map,Array.length_toList,hms]
 generalize (DataW.map ((ms.toList.map (Go.WideElems.rg P (ρk.t 26) R)).foldr DataW.insert []):DataW Unit)=D0 at hown hkeys hsize;have hmx:maxLen=9223372036854775807:=by decide +kernel
 have hseq:SeqGives Fence.wide 3 P (ρk.f 10) #[.pointer (some ⟨G.β (.o c),0,none⟩)] encZ (fun ss=>ss.Perm (intKeys D0)) (Maps.size D0) w :=
  AnyZI.keys_gives Lk Fence.wide 3 trivial rfl (by omega) (G.β (.o c)) (G.β (.o a)) ms.size D0 w hBm hcell hown
 have hsort:AnyZI.SortsIn P ρ Fence.wide 5:=by
  refine ⟨fun blk off cap ss W hH hblk hsz => ?_,fun p cap W => ?_⟩
  ·rw [hs];exact callsIn_wide.2 (AnyM.slices_Sort_int Ls blk off cap ss W hH hblk hsz)
  rw [hs];exact callsIn_wide.2 (AnyM.slices_Sort_int_none Ls p cap W)
 have cS:=AnyZI.sorted_in L Fence.wide 6 trivial trivial trivial trivial rfl (by omega) hsort (a2d hc9) (ρk.f 10) #[.pointer (some ⟨G.β (.o c),0,none⟩)] trivial (a2d hck) _ (Maps.size D0) (by rw [hsize];omega) (by rw [hsize];omega) w hseq;have cD:=CallsIn.drawn cS (fun e w' h=>by obtain ⟨v,ss,h,_⟩:=h;exact ⟨v,h⟩);have hw:CallsIn Fence.wide N P (ρ.f 6) #[.func (.func (ρk.f 10)) #[] #[.pointer (some ⟨G.β (.o c),0,none⟩)]] w _:=callsIn_wide.2 (callsIn_wide.1 cD);refine CallsIn.mono (F:=Wd none) hw ?_;rintro e w' ⟨⟨v,ss,rfl,hS,hrow,hnil,hb⟩,hdr⟩;have hsl:ss.mergeSort (fun x y=>decide (x<=y))=(es.map fun p=>a2e p.1).mergeSort fun x y=>decide (x<=y):=mergeSort_of_perm_i (hS.trans hkeys);rw [hsl] at hrow;have hll:ss.length=((es.map fun p=>a2e p.1).mergeSort fun x y=>decide (x<=y)).length:=by rw [<-hsl,List.length_mergeSort]
 rw [hll] at hrow;generalize ((es.map fun p=>a2e p.1).mergeSort fun x y=>decide (x<=y))=zs at hrow;have hfr : ∀ x:Addr,x.block<w.heap.size->w'.frozen? x=w.frozen? x:=fun x hx=>hb.frozen hx;have hio:w'.os=w.os/\w'.output=w.output/\(∀ a,a.block<w.heap.size->w'.frozen? a=w.frozen? a)/\w'.tape=w.tape/\w.drawn<=w'.drawn:=⟨hb.os,hb.output,hfr,hb.tape,hdr⟩;have hcellK : ∀ x u,G.K x=some u->x.block<w.heap.size:=fun x u hx=>World.block_lt_of_cell? w _ (RH.kept x u hx);rcases hrow.2 with ⟨rfl,hz⟩ | ⟨g,cap,cur,rfl,hbase,hgb,r1,r2,r3,r4⟩
 ·have hz':zs=[]:=List.length_eq_zero_iff.1 hz;subst hz';refine ⟨_,G,rfl,.d _ _ _ (.nil 1),⟨RH.sane,RH.nh,fun i ob hi => ?_,fun x u hx => ?_,fun b ℓ f h=>⟨Nat.lt_of_lt_of_le (RH.disj b ℓ f h).1 hb.size,(RH.disj b ℓ f h).2⟩⟩,⟨KLe.refl _,fun _ _ h => .inl h,fun b hb' h=>⟨hb.block b hb',h⟩,hb.size,fun _ _=>rfl,hio⟩⟩
  ·exact (RH.objs i ob hi).pres RH.sane (by rw [<-RH.nh];exact (zp2.1 hi).1) (S:=fun _=>True) ⟨KLe.refl _,fun b ℓ f _ h=>⟨h,hb.block b (RH.disj b ℓ f h).1⟩,fun _ _=>rfl,Nat.le_refl _⟩ trivial (fun _=>trivial)
  rw [hb.cell (hcellK x u hx)];exact RH.kept x u hx
 have hgw:w.heap.size<=g:=hbase;let K':Addr->Option Value:=fun x=>if x.block=g/\x.spot=none/\x.off<zs.length then cur[x.off]? else G.K x
 have hKle:KLe G.K K':=fun x u hx=>by
  show (if _ then _ else _)=_
  rw [if_neg]
  ·exact hx
  rintro ⟨e,_⟩;have:=hcellK x u hx;omega
 have hcur : ∀ j (hj:j<zs.length),cur[j]?=some (.int .i64 zs[j]):=fun j hj=>by
  have e:=congrArg (·[j]?) r4;simp only [Nat.mul_one,List.getElem?_take_of_lt hj,List.getElem?_map] at e;rw [Array.getElem?_toList] at e;rw [e,zp1 hj];rfl
 let G':Gh:={ G with K:=K' }
 have hK'j : ∀ j (hj:j<zs.length),K' ⟨g,0+j,none⟩=some (.int .i64 zs[j]):=fun j hj=>by
  show (if _ then _ else _)=_
  rw [if_pos ⟨rfl,rfl,by simpa using hj⟩];simpa using hcur j hj
 have hOg : ∀ ℓ f,G.O g≠some (ℓ,f):=fun ℓ f h=>by have:=(RH.disj g ℓ f h).1;omega
 have hflat:=a8j zs;have hrepd:RepD K' (.list 1 (zs.map (.int .i64))) (.slice (some ⟨g,0,none⟩) (zs.map (.int .i64):List D).length cap):=by
  refine .list 1 _ g 0 cap (fun j => .int .i64 (zs.getD j 0)) ?_ (by simpa using r1) ?_ ?_ ?_
  ·intro x hx;obtain ⟨z,_,rfl⟩:=List.mem_map.1 hx
   rfl
  ·intro j hj;rw [hflat,List.length_map] at hj;rw [hK'j j hj,List.getD_eq_getElem?_getD,zp1 hj];rfl
  ·intro j hj;rfl
  intro j hj;have hj':j<zs.length:=by rw [hflat,List.length_map] at hj;exact hj
  have e:(D.flat (zs.map (.int .i64)))[j]'hj = .int .i64 (zs.getD j 0):=by
   have:(D.flat (zs.map (.int .i64)))[j]?=some (.int .i64 (zs.getD j 0)):=by
    rw [hflat,List.getElem?_map,zp1 hj',List.getD_eq_getElem?_getD,zp1 hj'];rfl
   rw [zp1 hj] at this;exact Option.some.inj this
  rw [e];exact .int _ _
 refine ⟨_,G',rfl,.d _ _ _ (by rw [List.length_map] at hrepd;exact hrepd),⟨⟨fun b ℓ f h=>RH.sane.no b ℓ f h⟩,RH.nh,fun i ob hi => ?_,fun x u hx => ?_,fun b ℓ f h=>⟨Nat.lt_of_lt_of_le (RH.disj b ℓ f h).1 hb.size,fun j hj => ?_⟩⟩,⟨hKle,fun x u hx => ?_,fun b hb' h=>⟨hb.block b hb',h⟩,hb.size,fun _ _=>rfl,hio⟩⟩
 ·exact (RH.objs i ob hi).pres RH.sane (by rw [<-RH.nh];exact (zp2.1 hi).1) (S:=fun _=>True) ⟨hKle,fun b ℓ f _ h=>⟨h,hb.block b (RH.disj b ℓ f h).1⟩,fun _ _=>rfl,Nat.le_refl _⟩ trivial (fun _=>trivial)
 ·have hx':(if x.block=g/\x.spot=none/\x.off<zs.length then cur[x.off]? else G.K x)=some u:=hx
  split at hx'
  ·rename_i hcnd;obtain ⟨e1,e2,e3⟩:=hcnd;unfold World.cell?;rw [e1,hgb];simp only [e2];exact hx'
  rw [hb.cell (hcellK x u hx')];exact RH.kept x u hx'
 ·show (if _ then _ else _)=_
  rw [if_neg]
  ·exact (RH.disj b ℓ f h).2 j hj
  rintro ⟨e,_⟩;simp only at e;subst e;exact hOg ℓ f h
 have hx':(if x.block=g/\x.spot=none/\x.off<zs.length then cur[x.off]? else G.K x)=some u:=hx
 split at hx'
 ·rename_i hcnd;exact .inr (.inr (by rw [hcnd.1];exact hgw))
 exact .inl hx'
end Go.Am
