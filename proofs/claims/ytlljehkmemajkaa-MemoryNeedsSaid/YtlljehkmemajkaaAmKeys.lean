import Derived.Test.YtlljehkmemajkaaAmSrt
import Derived.Shelf.SlSortCmp.NoneTotal
import Derived.Test.YtlljehkmemajkaaAmDrn
import Derived.Shelf.SlIterI.Sorted
import Derived.Shelf.SortM.Plain
import Derived.Shelf.SortM.SortNone
set_option linter.unusedSimpArgs false
set_option linter.unusedVariables false
namespace Go.Am
open Go
section
variable {w:World} {B m:Nat} {vs:Array Value} {e0:TypeId} {α:Type} [Inhabited α] {F:Array α} {e:α->Value} {os:Array Go.Obj}
theorem a3x (hB:w.heap[B]?=some (.cells vs e0 (0,0))) {b:Nat} (hb:b<w.heap.size) (hne:b≠B):(Sort.grow (Sort.putRow e (Sort.ahead w m) B 0 F) os).heap[b]?=w.heap[b]?:=by
 rw [Sort.heap_grow_old _ _ (by simpa using hb)];simp only [Sort.putRow,Sort.mapBlock,Array.getElem?_modify,Sort.heap_ahead];rw [if_neg (Ne.symm hne)]
theorem b0S (hB:w.heap[B]?=some (.cells vs e0 (0,0))) (hF:F.size<=vs.size) : ∃ vs1:Array Value,(Sort.grow (Sort.putRow e (Sort.ahead w m) B 0 F) os).heap[B]?=some (.cells vs1 e0 (0,0))/\vs1.size=vs.size /\ ∀ j,j<F.size->vs1.getD j Go.undef=e F[j]!:=by
 have hlt:B<w.heap.size:=(Array.getElem?_eq_some_iff.1 hB).1;refine ⟨Sort.putCells e 0 F vs,?_,by simp [Sort.putCells],fun j hj => ?_⟩
 ·rw [Sort.heap_grow_old _ _ (by simpa using hlt)];simp only [Sort.putRow,Sort.mapBlock,Array.getElem?_modify,Sort.heap_ahead,if_true,hB,Option.map_some,Sort.onCells]
 have hjv:j<vs.size:=by omega
 simp [Sort.putCells,zp5,hjv,hj]
theorem a9m:w.heap.size<=(Sort.grow (Sort.putRow e (Sort.ahead w m) B 0 F) os).heap.size:=by simp
theorem a9n (hB:w.heap[B]?=some (.cells vs e0 (0,0))) {x:Addr} {v:Value} (hx:w.cell? x=some v) (hne:x.block≠B):(Sort.grow (Sort.putRow e (Sort.ahead w m) B 0 F) os).cell? x=some v:=by
 have hb:=World.block_lt_of_cell? w _ hx;unfold World.cell? at hx ⊢;rw [a3x hB hb hne];exact hx
theorem a9Y (hB:w.heap[B]?=some (.cells vs e0 (0,0))) (hF:F.size<=vs.size) {a:Addr} (ha:a.block<w.heap.size):(Sort.grow (Sort.putRow e (Sort.ahead w m) B 0 F) os).frozen? a=w.frozen? a:=by
 unfold World.frozen?;by_cases hne:a.block=B
 ·obtain ⟨vs1,h1,_,_⟩:=b0S (m:=m) (e:=e) (os:=os) hB hF;rw [hne,h1,hB]
 rw [a3x hB ha hne]
end
theorem a9Z {w w':World} (hb : ∀ b,b<w.heap.size->w'.heap[b]?=w.heap[b]?) (hs:w.heap.size<=w'.heap.size) (h1:w'.os=w.os) (h2:w'.output=w.output) (h3:w'.tape=w.tape) (h4:w.drawn<=w'.drawn) :
  ∃ q os',w'=Sort.grow (w.drewN q) os':=by
 refine ⟨w'.drawn-w.drawn,w'.heap.extract w.heap.size w'.heap.size,?_⟩;have hheap:w'.heap=w.heap++w'.heap.extract w.heap.size w'.heap.size:=by
  apply Array.ext_getElem?;intro k;rw [Array.getElem?_append];split
  ·rename_i hk;exact hb k hk
  rename_i hk;rw [Array.getElem?_extract];split
  ·congr 1;omega
  rw [Array.getElem?_eq_none (by omega)]
 have hd:w'.drawn=w.drawn+(w'.drawn-w.drawn):=by omega
 cases w' with | mk heap tape drawn os output =>
 cases w with | mk heap0 tape0 drawn0 os0 output0 =>
 simp only [Sort.grow,World.drewN] at *;subst h1;subst h2;subst h3;rw [<-hheap,<-hd]
theorem b4h {P:Program} {g:FuncId} {caps:List AV} {x y:D} {r:Int} (hc:a0h P g ([.d x,.d y]++caps) [] (.d (.int .i64 r)) []) {G:Gh} {w W:World} (hG:Sane G) (hK : ∀ x v,G.K x=some v->W.cell? x=some v)
  {vx vy:Value} (hx:RepD G.K x vx) (hy:RepD G.K y vy) {vb:Array Value} (hb:vb.size=caps.length) (hcaps : ∀ (i:Nat) (hi:i<caps.length),RepV G w .no caps[i] (vb.getD i Go.undef)) (hi0:a4e 0 caps=true) (hl : ∀ c∈caps,c.isLocal=false) :
  Calls P g (#[vx,vy]++vb) W fun e w'=>e = .returned (.int .i64 r) /\ ∃ q os',w'=Sort.grow (W.drewN q) os':=by
 obtain ⟨_,_,_,_,_,h⟩:=hc;let G1:Gh:={ K:=G.K,O:=fun _=>none,β:=fun _=>0,nh:=0 };have RH:RelH G1 [] W:=⟨⟨fun b ℓ f h=>by cases h⟩,rfl,fun i ob h=>by simp at h,hK,fun b ℓ f h=>by cases h⟩;have hsub:Sub G G1 w W (fun ℓ=>ℓ = .no) 0:=⟨KLe.refl _,fun b ℓ f hl hO=>absurd (hl▸rfl) (hG.no b ℓ f hO),fun a ha=>absurd ha (Nat.not_lt_zero _),Nat.zero_le _⟩;have:=h 0 G1 W (#[vx,vy]++vb) (by simp [hb];omega) (fun i hi=>by
  match i,hi with
  | 0,_=>simpa [zp5,Array.getElem?_append] using RepV.d (G:=G1) (w:=W) .no x vx hx
  | 1,_=>simpa [zp5,Array.getElem?_append] using RepV.d (G:=G1) (w:=W) .no y vy hy
  | i+2,hi =>
    have hic:i<caps.length:=by simpa using hi
    have:=(hcaps i hic).sub hG hsub rfl (a0V hi0 i hic) (hl _ (zp6 hic));simpa [zp5,Array.getElem?_append,show ¬ i+2<2 by omega] using this) RH (fun b ℓ f h=>by cases h)
 have hw:CallsIn Fence.wide 0 P g (#[vx,vy]++vb) W _:=this;refine (callsIn_wide.1 hw).mono ?_;rintro e w' ⟨v,G',rfl,hv,_,hE⟩;cases hv with | d _ _ _ hv =>
 cases hv;exact ⟨rfl,a9Z (fun b hb=>(hE.others b hb rfl).1) hE.size hE.io.1 hE.io.2.1 hE.io.2.2.2.1 hE.io.2.2.2.2⟩
theorem b5H {G:Gh} {H:List Obj} {w:World} (R:RelH G H w) {i k m:Nat} {l l':List D} (hi:H[i]?=some (.arr k l)) {vs:Array Value} {e0:TypeId} (hO:G.O (G.β (.o i))=some (.o i,0)) (hw:w.heap[G.β (.o i)]?=some (.cells vs e0 (0,0)))
  {α:Type} [Inhabited α] {F:Array α} {e:α->Value} {os:Array Go.Obj} (hF:F.size<=vs.size) (hu:a0m k l') (hlen:(D.flat l').length=F.size) (h1 : ∀ j,j<F.size->(e F[j]!).oneCell'=true) (hh : ∀ (j:Nat) (hj:j<(D.flat l').length),RepD G.K (D.flat l')[j] (e F[j]!)) :
  RelH G (H.set i (.arr k l')) (Sort.grow (Sort.putRow e (Sort.ahead w m) (G.β (.o i)) 0 F) os) /\ ∀ n,Ext n G w G (Sort.grow (Sort.putRow e (Sort.ahead w m) (G.β (.o i)) 0 F) os):=by
 have hil:i<H.length:=(zp2.1 hi).1;have hpr:Pres G G w (Sort.grow (Sort.putRow e (Sort.ahead w m) (G.β (.o i)) 0 F) os) (fun x=>x ≠ .o i) :=
  ⟨KLe.refl _,fun b' x f' hx h=>⟨h,a3x hw (R.disj _ _ _ h).1 (by rintro rfl;rw [hO] at h;simp at h;exact hx h.1.symm)⟩,fun _ _=>rfl,Nat.le_refl _⟩
 have hKb : ∀ x v,G.K x=some v->x.block≠G.β (.o i):=by
  intro x v hx hb;have hc:=R.kept x v hx;have hsp:x.spot=none:=by
   unfold World.cell? at hc;split at hc
   ·split at hc
    ·cases hc
    rename_i hsp;simpa using hsp
   cases hc
  have:=(R.disj _ _ _ hO).2 x.off (Nat.zero_le _);obtain ⟨xb,xo,xs⟩:=x;simp at hsp hb;subst hsp;subst hb;rw [this] at hx;cases hx
 obtain ⟨vs1,r1,r2,r3⟩:=b0S (m:=m) (e:=e) (os:=os) (F:=F) hw hF
 refine ⟨⟨R.sane,by simpa using R.nh,fun i' ob hob => ?_,fun x v hx=>a9n hw (R.kept x v hx) (hKb x v hx),fun b ℓ f h=>⟨Nat.lt_of_lt_of_le (R.disj b ℓ f h).1 a9m,(R.disj b ℓ f h).2⟩⟩,
  fun n=>⟨KLe.refl _,fun x v h => .inl h,fun b hb h=>⟨a3x hw hb (by rintro rfl;rw [hO] at h;cases h),h⟩,a9m,fun _ _=>rfl,rfl,rfl,fun a ha=>a9Y hw hF ha,rfl,by simp [Sort.grow,Sort.putRow,Sort.mapBlock,Sort.ahead]⟩⟩
 by_cases hii:i=i'
 ·subst hii;rw [List.getElem?_set_self hil] at hob;injection hob with hob;subst hob
  exact ⟨vs1,e0,hO,r1,hu,by omega,fun j hj=>by rw [r3 j (by omega)];exact h1 j (by omega),fun j hj=>by rw [r3 j (by omega)];exact hh j hj⟩
 rw [List.getElem?_set_ne hii] at hob;exact (R.objs i' ob hob).pres R.sane (by rw [<-R.nh];exact (zp2.1 hob).1) hpr (by simp;exact fun e=>hii e.symm) (by simp)
theorem set_self {α:Type} : ∀ {l:List α} {i:Nat} {x:α},l[i]?=some x->l.set i x=l
 | [],_,_,h=>by simp at h
 | y::r,0,x,h=>by simp at h;simp [h]
 | y::r,i+1,x,h=>by simp at h;simp [set_self h]
theorem b0a {τ α:Type} [Inhabited α] {f:τ->τ->Option Int} {xs:List τ} (hc:CmpOk f xs) {lt:α->α->Bool} {p:α->τ} (hlt : ∀ a b,lt a b=ltF f (p a) (p b)) {d d':Array α} (hd:d.toList.map p=xs) (hP:Sort.PermIn 0 d.size d d') (hS:Sort.SortedIn lt 0 d.size d') :
  d'.toList.map p=xs.mergeSort fun x y => !ltF f y x:=by
 obtain ⟨hsz,_,hperm⟩:=hP;have e1:d'.extract 0 d.size=d':=by rw [<-hsz];exact Array.extract_size
 rw [e1,Array.extract_size] at hperm;have hpm:(d'.toList.map p).Perm xs:=by rw [<-hd];exact hperm.map p
 have hmem : ∀ x,x∈d'.toList.map p->x∈xs:=fun x hx=>hpm.mem_iff.1 hx;refine List.Perm.eq_of_pairwise (le:=fun x y=>x∈xs/\y∈xs/\(!ltF f y x)=true) ?_ ?_ ?_ (hpm.trans (List.mergeSort_perm _ _).symm)
 ·rintro a b _ _ ⟨ha,hb,h1⟩ ⟨_,_,h2⟩;simp only [Bool.not_eq_true'] at h1 h2;exact hc.tot a ha b hb h2 h1
 ·rw [List.pairwise_iff_getElem];intro i j hi hj hij;have hi':i<d'.size:=by simpa using hi
  have hj':j<d'.size:=by simpa using hj
  have:=hS i j (Nat.zero_le _) hij (by omega);rw [hlt,getElem!_pos d' i hi',getElem!_pos d' j hj'] at this;refine ⟨hmem _ (zp6 hi),hmem _ (zp6 hj),?_⟩;simpa using this
 ·have hall : ∀ a,a∈(xs.mergeSort fun x y => !ltF f y x)->a∈xs:=fun a ha=>(List.mergeSort_perm xs _).mem_iff.1 ha

  have key:(xs.attach.mergeSort fun x y => !ltF f y.1 x.1).map (·.1)=xs.mergeSort fun x y => !ltF f y x:=by
   have:=List.map_mergeSort (r:=fun (x y:{x // x∈xs}) => !ltF f y.1 x.1) (s:=fun x y => !ltF f y x) (f:=(·.1)) (l:=xs.attach) (fun a _ b _=>rfl);rw [this,List.attach_map_subtype_val]
  rw [<-key];rw [List.pairwise_map];have hp:=List.pairwise_mergeSort (le:=fun (x y:{x // x∈xs}) => !ltF f y.1 x.1) (fun a b c h1 h2=>by
    simp only [Bool.not_eq_true'] at h1 h2 ⊢;exact hc.ntr c.1 c.2 b.1 b.2 a.1 a.2 h2 h1) (fun a b=>by
    simp only [Bool.or_eq_true,Bool.not_eq_true'];cases h1:ltF f b.1 a.1 with
    | false=>exact .inl rfl
    | true =>
      cases h2:ltF f a.1 b.1 with
      | false=>exact .inr rfl
      | true =>
        have:=hc.tr b.1 b.2 a.1 a.2 b.1 b.2 h1 h2;rw [hc.irr b.1 b.2] at this;cases this) xs.attach
  exact hp.imp (fun {a b} h=>⟨a.2,b.2,h⟩)
theorem c0n {τ α:Type} {f:τ->τ->Option Int} {xs:List τ} (hc:CmpOk f xs) {cf:α->α->Int} {p:α->τ} (hp : ∀ a,p a∈xs) (hlt : ∀ a b,Go.Proofs.ltOf cf a b=ltF f (p a) (p b)):Sort.SWO (Go.Proofs.ltOf cf) where
 irrefl a:=by rw [hlt];exact hc.irr _ (hp a)
 trans a b c h1 h2:=by rw [hlt] at *;exact hc.tr _ (hp a) _ (hp b) _ (hp c) h1 h2
 ntrans a b c h1 h2:=by rw [hlt] at *;exact hc.ntr _ (hp a) _ (hp b) _ (hp c) h1 h2
theorem a6c {P:Program} {f:FuncId} (hc:callable P f=true) : ∀ (args:Array Value) (w:World),(callFunc f args).run P w = .ok (.enter f args) w:=fun args w=>a8S hc args w
end Go.Am

namespace Go.Am
open Go Go.Proofs Go.Maps
theorem CallsIn.drawn {F:Fence} {n:Nat} {P:Program} {f:FuncId} {args:Array Value} {w:World} {R:Ending->World->Prop} (h:CallsIn F n P f args w R) (hr : ∀ e w',R e w' -> ∃ v,e = .returned v) :
  CallsIn F n P f args w fun e w'=>R e w'/\w.drawn<=w'.drawn:=by
 refine ⟨h.1,fun cs hc => ?_⟩;obtain ⟨e,w',fr,h1,h2,h3,h4⟩:=h.2 cs hc;obtain ⟨v,rfl⟩:=hr e w' h1;have hs:StepsIn (Machine.fenced P F) P (lone (Frame.enter P f args .normal) cs w) (lone fr cs w'):=h2;exact ⟨_,w',fr,⟨h1,StepsIn.drawn hs⟩,h2,h3,h4⟩
end Go.Am
