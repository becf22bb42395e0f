/- Own text: AmEq. -/
import Derived.Test.YtlljehkmemajkaaAmBuild
import Derived.Test.YtlljehkmemajkaaAmPure
import Derived.Laws.StructEq
import Derived.ChangeKeysEq
import Derived.DeepKeys3
import Derived.MapKept
set_option linter.unusedSimpArgs false
set_option linter.unusedSectionVars false
namespace Go.Am
open Go
def Gh.keep (G:Gh) (b lo hi:Nat) (c:Nat->Value):Gh :=
 { G with K:=fun x=>if x.block=b/\x.spot=none/\lo<=x.off/\x.off<hi then some (c x.off) else G.K x }
theorem Rel.newList {G:Gh} {σ:St} {a:Act} {w w1:World} (R:Rel G σ a w) (hw1:w1.heap=w.heap) (hos:w1.os=w.os) (hout:w1.output=w.output) (htp:w1.tape=w.tape) (hdr:w.drawn<=w1.drawn) {d k cap:Nat} {l:List D} {vs:Array Value} (e:TypeId) (hlt:d<σ.n) (hbox:(σ.get d).isBox=false)
  (hu:uniform k l) (hcap:l.length<=cap) (hsz:cap*k<=vs.size) (hv : ∀ (q:Nat) (hq:q<(D.flat l).length),RepD G.K (D.flat l)[q] (vs.getD q Go.undef)/\(vs.getD q Go.undef).oneCell'=true) :
  ∃ G',Rel G' (σ.upd [(d,.own k l)] none) (a.put (some d) (.slice (some ⟨w.heap.size,0,none⟩) l.length cap)) (w1.alloc (.cells vs e)) /\ ∀ m,Ext m G w G' (w1.alloc (.cells vs e)):=by
 have hfl:=flat_length hu
 have hle:l.length*k<=vs.size:=Nat.le_trans (Nat.mul_le_mul_right k hcap) hsz
 let G':Gh:=(G.own w.heap.size (.s d) (l.length*k)).keep w.heap.size 0 (l.length*k) (fun q=>vs.getD q Go.undef)
 have hsize:w1.heap.size=w.heap.size:=by rw [hw1]
 have hOold : ∀ b x f,G.O b=some (x,f)->G'.O b=some (x,f):=by
  intro b x f h
  have:=(R.h.disj b x f h).1
  simp [G',Gh.own,Gh.keep,Nat.ne_of_lt this,h]
 have hold : ∀ b,b<w.heap.size->(w1.alloc (.cells vs e)).heap[b]?=w.heap[b]?:=by
  intro b hb
  rw [heap_alloc_lt (by rw [hsize];exact hb),hw1]
 have hnew:(w1.alloc (.cells vs e)).heap[w.heap.size]?=some (.cells vs e (0,0)):=by
  have:=heap_alloc_new (w:=w1) (o := .cells vs e)
  rwa [hsize] at this
 have hKle:KLe G.K G'.K:=by
  intro x v h
  have hb:=World.block_lt_of_cell? w _ (R.h.kept x v h)
  simp only [G',Gh.keep,Gh.own]
  rw [if_neg (by intro hc;omega)];exact h
 have hpr:Pres G G' w (w1.alloc (.cells vs e)) (fun _=>True) :=
  ⟨hKle,fun b x f _ h=>⟨hOold b x f h,hold b (R.h.disj b x f h).1⟩,fun _ _=>rfl,Nat.le_refl _⟩
 have hKnew : ∀ q,q<l.length*k->G'.K ⟨w.heap.size,q,none⟩=some (vs.getD q Go.undef):=by
  intro q hq;simp [G',Gh.keep,hq]
 have hd':d<a.tmps.size:=by rw [R.size];exact hlt
 refine ⟨G',⟨⟨⟨fun b x f h => ?_⟩,R.h.nh,fun i ob hob => ?_,fun x v h => ?_,fun b x f h => ?_⟩,by simpa [Act.put,St.upd] using R.size,?_,?_,?_⟩,fun m=>⟨hKle,fun x v h => ?_,fun b hb h=>⟨hold b hb,?_⟩,?_,fun _ _=>rfl,hos,hout,(fun a _=>(frozen?_alloc_new _ _ (fun _ _ _ e=>by cases e;rfl) a).trans (by unfold World.frozen?;rw [hw1])),htp,hdr⟩⟩
 ·simp only [G',Gh.own,Gh.keep] at h
  split at h
  ·simp at h;rw [<-h.1];simp [Loc.root]
  ·exact R.h.sane.no b x f h
 ·exact (R.h.objs i ob hob).pres R.h.sane (by rw [<-R.h.nh];exact (zp2.1 hob).1) hpr trivial (fun _=>trivial)
 ·simp only [G',Gh.keep,Gh.own] at h
  split at h
  ·rename_i hc
   obtain ⟨hb,hsp,_,hq⟩:=hc
   obtain ⟨xb,xo,xs⟩:=x
   simp at hb hsp hq h
   subst hb hsp
   rw [cell_at hnew (by omega)]
   simpa using h
  ·have:=R.h.kept x v h
   have hb:=World.block_lt_of_cell? w _ this
   unfold World.cell? at *
   rwa [hold _ hb]
 ·simp only [G',Gh.own,Gh.keep] at h
  split at h
  ·rename_i hbe;subst hbe
   simp at h
   obtain ⟨_,rfl⟩:=h
   refine ⟨by simp [hsize],fun j hj => ?_⟩
   simp only [G',Gh.keep,Gh.own]
   rw [if_neg (by intro hc;omega)]
   cases hK:G.K ⟨w.heap.size,j,none⟩ with
   | none=>rfl
   | some v=>exact absurd (World.block_lt_of_cell? w _ (R.h.kept _ _ hK)) (by simp)
  ·rename_i hbe
   have:=R.h.disj b x f h
   refine ⟨by simp [hsize];omega,fun j hj => ?_⟩
   simp only [G',Gh.keep,Gh.own]
   rw [if_neg (by intro hc;exact hbe hc.1)]
   exact this.2 j hj
 ·intro t
  simp only [Act.put,getD_set _ _ _ _ hd',St.upd,St.get,esets,List.foldl_cons,List.foldl_nil,eget_eset]
  split
  ·rename_i e';subst e'
   refine .own _ _ _ _ ?_ ?_
   ·refine .list k l w.heap.size 0 cap (fun q=>vs.getD q Go.undef) hu hcap (fun j hj => ?_) (fun j hj=>(hv j hj).2) (fun j hj=>(hv j hj).1.mono hKle)
    rw [Nat.zero_add];exact hKnew j (by omega)
   ·intro a' n cap' hv' _
    simp at hv'
    obtain ⟨rfl,rfl,rfl⟩:=hv'
    exact ⟨l.length*k,vs,e,by simp [G',Gh.own,Gh.keep],by simp,hnew,by simpa using hsz,rfl⟩
  ·exact (R.slots t).pres R.h.sane hpr trivial (fun r' off' e'=>rfl) (fun t' e' hbx=>⟨rfl,fun _=>trivial⟩)
 ·intro t r'' off' ht
  simp only [St.upd,St.get,esets,List.foldl_cons,List.foldl_nil,eget_eset] at ht ⊢
  split at ht
  ·cases ht
  ·obtain ⟨cs',hcs'⟩:=R.places t r'' off' ht
   split
   ·rename_i e;subst e;rw [show σ.get d=_ from hcs'] at hbox;simp [AV.isBox] at hbox
   ·exact ⟨cs',hcs'⟩
 ·refine ⟨R.df.1,fun x hx => ?_⟩
  obtain ⟨r0,h1,h2,h3⟩:=R.df.2 x hx
  exact ⟨r0,h1,hOold _ _ _ h2,by rw [hold _ (R.h.disj _ _ _ h2).1];exact h3⟩
 ·simp only [G',Gh.keep,Gh.own] at h
  split at h
  ·rename_i hc;exact .inr (.inr (by omega))
  ·exact .inl h
 ·simp [G',Gh.own,Gh.keep,Nat.ne_of_lt hb,h]
 ·simp [hsize]
theorem Rel.demote {G:Gh} {σ:St} {a:Act} {w:World} (R:Rel G σ a w) {s k:Nat} {l:List D} (hs:σ.get s = .own k l\/σ.get s = .lim k l\/σ.get s = .tail k l):Rel G (σ.upd [(s,.d (.list k l))] none) a w:=by
 have hrep:=R.slots s
 generalize hv:a.tmps.getD s Go.undef=v at hrep
 have hr:RepD G.K (.list k l) v:=by
  rcases hs with hs | hs | hs <;> rw [hs] at hrep <;> cases hrep <;> assumption
 refine ⟨R.h,by simpa [St.upd] using R.size,?_,?_,R.df⟩
 ·intro t
  simp only [St.upd,St.get,esets,List.foldl_cons,List.foldl_nil,eget_eset]
  split
  ·rename_i e;subst e;rw [hv];exact .d _ _ _ hr
  ·exact R.slots t
 ·intro t r' off ht
  simp only [St.upd,St.get,esets,List.foldl_cons,List.foldl_nil,eget_eset] at ht ⊢
  split at ht
  ·cases ht
  ·obtain ⟨cs,hcs⟩:=R.places t r' off ht
   refine ⟨cs,?_⟩
   split
   ·rename_i e;subst e;rw [hcs] at hs;rcases hs with hs | hs | hs <;> cases hs
   ·exact hcs
theorem Rel.toLim {G:Gh} {σ:St} {a:Act} {w:World} (R:Rel G σ a w) {s k:Nat} {l:List D} (hs:σ.get s = .own k l) (hv : ∀ b n cap,a.tmps.getD s Go.undef = .slice b n cap->n=cap):Rel G (σ.upd [(s,.lim k l)] none) a w:=by
 have hrep:=R.slots s
 have hr:RepD G.K (.list k l) (a.tmps.getD s Go.undef):=by
  rw [hs] at hrep;cases hrep;assumption
 refine ⟨R.h,by simpa [St.upd] using R.size,?_,?_,R.df⟩
 ·intro t
  simp only [St.upd,St.get,esets,List.foldl_cons,List.foldl_nil,eget_eset]
  split
  ·rename_i e;subst e;exact .lim _ _ _ _ hr hv
  ·exact R.slots t
 ·intro t r' off ht
  simp only [St.upd,St.get,esets,List.foldl_cons,List.foldl_nil,eget_eset] at ht ⊢
  split at ht
  ·cases ht
  ·obtain ⟨cs,hcs⟩:=R.places t r' off ht
   refine ⟨cs,?_⟩
   split
   ·rename_i e;subst e;rw [hcs] at hs;cases hs
   ·exact hcs
theorem Rel.loosen {G:Gh} {σ:St} {a:Act} {w:World} (R:Rel G σ a w) {s k:Nat} {l:List D} {z:Bool} (hs:σ.get s = .own k l):Rel G (σ.upd [(s,.ownZ z k l)] none) a w:=by
 have hrep:=R.slots s
 have hr:RepV G w (.s s) (.ownZ z k l) (a.tmps.getD s Go.undef):=by
  rw [hs,show AV.own k l = .ownZ true k l from rfl,ownZ_rep] at hrep
  cases z with
  | true=>exact ownZ_rep.2 hrep
  | false=>exact ownZ_rep.2 ⟨hrep.1,hrep.2.weak⟩
 refine ⟨R.h,by simpa [St.upd] using R.size,?_,?_,R.df⟩
 ·intro t
  simp only [St.upd,St.get,esets,List.foldl_cons,List.foldl_nil,eget_eset]
  split
  ·rename_i e;subst e;exact hr
  ·exact R.slots t
 ·intro t r' off ht
  simp only [St.upd,St.get,esets,List.foldl_cons,List.foldl_nil,eget_eset] at ht ⊢
  split at ht
  ·exact absurd ht (by cases z <;> simp [AV.ownZ])
  ·obtain ⟨cs,hcs⟩:=R.places t r' off ht
   refine ⟨cs,?_⟩
   split
   ·rename_i e;subst e;rw [hcs] at hs;cases hs
   ·exact hcs
theorem fillSeq {k:Nat} : ∀ (ps:List (Nat×Value)) (i:Nat) (cells:Array Value),(∀ (j:Nat) (hj:j<ps.length),ps[j].1=i+j)->(∀ p∈ps,p.2.cells.size=k)->(i+ps.length)*k<=cells.size ->
  ∃ cells',Instr.fill (fun i=>some (i*k,k)) cells ps=some cells'/\cells'.size=cells.size /\
    ∀ q,cells'.getD q Go.undef=if i*k<=q/\q<(i+ps.length)*k then (cellsOf (ps.map (·.2))).getD (q-i*k) Go.undef else cells.getD q Go.undef
 | [],i,cells,_,_,_=>⟨cells,rfl,rfl,fun q=>by simp;omega⟩
 | (i',v)::r,i,cells,h1,h2,h3=>by
   have hi:i'=i:=h1 0 (by simp)
   subst hi
   have hv:v.cells.size=k:=h2 (i',v) (by simp)
   have hk1:(i'+(r.length+1))*k=i'*k+k+r.length*k:=by rw [Nat.add_mul,Nat.add_mul];omega
   simp only [List.length_cons] at h3
   obtain ⟨f1,f2⟩:=fold_set (i'*k) v.cells.toList 0 cells (by simp [hv];omega)
   have hk2:(i'+1+r.length)*k=i'*k+k+r.length*k:=by rw [Nat.add_mul,Nat.add_mul];omega
   have hk3:(i'+1)*k=i'*k+k:=by rw [Nat.add_mul];omega
   obtain ⟨cells',k1,k2,k3⟩:=fillSeq r (i'+1) (((v.cells.toList.zipIdx 0).foldl (fun cs p=>cs.setIfInBounds (i'*k+p.2) p.1) cells)) (fun j hj=>by have:=h1 (j+1) (by simp;omega);simp at this;omega)
    (fun p hp=>h2 p (by simp [hp])) (by rw [f1];omega)
   refine ⟨cells',?_,k2.trans f1,fun q => ?_⟩
   ·simp only [Instr.fill]
    rw [if_neg (by simp [hv];omega),<-k1]
    congr 1
    rw [<-Array.foldl_toList,Array.toList_zipIdx]
   ·rw [k3 q,f2 q]
    have hc0:(cellsOf (List.map (·.2) ((i',v)::r)))=v.cells.toList++cellsOf (r.map (·.2)):=by simp [cellsOf]
    simp only [List.length_cons,Array.length_toList,hv,Nat.add_zero,hc0,hk1,hk2,hk3]
    by_cases g1:i'*k+k<=q/\q<i'*k+k+r.length*k
    ·rw [if_pos g1,if_pos (by omega)]
     simp only [List.getD_eq_getElem?_getD]
     rw [zp8 (by simp [hv];omega)]
     congr 2
     simp [hv];omega
    ·rw [if_neg g1]
     by_cases g2:i'*k<=q/\q<i'*k+k
     ·rw [if_pos g2,if_pos (by omega)]
      simp only [List.getD_eq_getElem?_getD]
      rw [zp7 (by simp [hv];omega)]
     ·rw [if_neg g2,if_neg (by omega)]
section
variable {P:Program} {T:Types} (hT:TOk P T) {σ:St} {g:Nat->AV} {o:Oper} {ss:Sets} {h':Option (List Obj)} {H:List Obj} {an:Ann}
 (hg:Less g σ) (hgd : ∀ d,o.dst=some d->g d=σ.get d) (h:evBase Ar.std T an σ.n g H o=some (ss,h'))
include hT hg hgd h
omit hT hg hgd h in
theorem build_run {P:Program} {T:Types} (hT:TOk P T) {σ:St} {g:Nat->AV} {o:Oper} (hg:Less g σ) {t:TypeId} {cnt:Nat} {parts:Array (Nat×Operand)} (hop:o.op = .buildSlice t cnt parts) {sz e:Nat} {z:List AV} {td:TD} (ht:T t=some { size:=sz,u := .slice e,zero:=z }) (hte:T e=some td)
  (hps:parts.size=cnt) (hpos:0<td.size) (hbig:cnt*td.size<=4096) {l:List D} (hl:elemsOf Ar.std T g e td.size parts.toList 0=some l) {G:Gh} {a:Act} {w:World} (R:Rel G σ a w) :
  ∃ cells':Array Value,uniform td.size l/\(D.flat l).length=cells'.size/\(execOp a.eval o).run P w = .ok (.value (.slice (some ⟨w.heap.size,0,none⟩) l.length l.length)) (w.alloc (.cells cells' e)) /\
    ∀ (q:Nat) (hq:q<(D.flat l).length),RepD G.K (D.flat l)[q] (cells'.getD q Go.undef)/\(cells'.getD q Go.undef).oneCell'=true:=by
 obtain ⟨e1,e2,e3⟩:=elems_ok hg R parts.toList 0 l hl
 obtain ⟨i,dd,hi,hdd,hsz,_,huok,z0,hz,hzs,hzl,hzc⟩:=hT.info hte
 let vals:List Value:=parts.toList.map fun p=>a.eval p.2
 have hlv:l.length=vals.length:=by simp [vals,e1]
 have hlen:l.length=cnt:=by rw [e1];simpa using hps
 have hrep : ∀ (j:Nat) (hj:j<l.length) (hj':j<vals.length),RepD G.K l[j] vals[j]:=by
  intro j hj hj'
  have:=(e3 j (by simpa [vals] using hj') hj).2
  simpa [vals] using this
 obtain ⟨c1,c2⟩:=flat_rep hpos hlv e2 hrep
 have hvu : ∀ p∈(parts.toList.map fun p=>(p.1,a.eval p.2)),p.2.cells.size=td.size:=by
  intro p hp
  obtain ⟨j,hj,rfl⟩:=List.mem_iff_getElem.1 hp
  simp at hj
  have:=(hrep j (by omega) (by simp [vals];omega)).cells.1
  simp [vals] at this
  simp [this]
  exact e2 _ (zp6 _)
 obtain ⟨cells',k1,k2,k3⟩:=fillSeq (parts.toList.map fun p=>(p.1,a.eval p.2)) 0 ((Array.range (cnt*td.size)).map (z0.cells[· % z0.cells.size]!)) (fun j hj=>by
  simp at hj ⊢
  have:=(e3 j (by simpa using hj) (by omega)).1
  simpa using this) hvu (by simp [hps])
 have hrun:(execOp a.eval o).run P w = .ok (.value (.slice (some ⟨w.heap.size,0,none⟩) l.length l.length)) (w.alloc (.cells cells' e)):=by
  have hb : ¬ 2 ^ 24<cnt*td.size:=by omega
  have k1':Instr.fill (fun i=>some (i*td.size,td.size)) ((Array.range (cnt*td.size)).map (z0.cells[· % z0.cells.size]!)) (parts.map fun p=>(p.1,a.eval p.2)).toList=some cells':=by
   simpa using k1
  by_cases h0:cnt*td.size=0
  ·have hc0:cnt=0:=by
    rcases Nat.mul_eq_zero.1 h0 with h | h
    ·exact h
    ·omega
   subst hc0
   have hcells:cells' = #[]:=by
    have:cells'.size=0:=by rw [k2];simp
    exact Array.eq_empty_of_size_eq_zero this
   subst hcells
   have hp0:parts = #[]:=by
    exact Array.eq_empty_of_size_eq_zero hps
   subst hp0
   simp [execOp,hop,Instr.buildSlice,Go.underlying,hT.slice ht,hT.size hte,Instr.fill,newRow,hlen]
   exact congrArg (fun c=>w.alloc (.cells c e)) (Array.eq_empty_of_size_eq_zero (by simp))
  ·have hne' : ¬ (cnt=0\/td.size=0):=by
    intro hh;exact h0 (Nat.mul_eq_zero.2 hh)
   have key:(Instr.buildSlice t cnt (parts.map fun p=>(p.1,a.eval p.2))).run P w = .ok (.slice (some ⟨w.heap.size,0,none⟩) cnt cnt) (w.alloc (.cells cells' e)):=by
    unfold Instr.buildSlice
    simp only [Sem.run_bind,Go.underlying,run_program,Result.andThen_ok,hT.slice ht,Sem.run_pure,hT.size hte,gt_iff_lt,if_neg hb,if_neg h0]
    simp only [zeroValue,typeInfo,Sem.run_bind,run_program,hi,hz,Result.andThen_ok,Sem.run_pure]
    rw [k1']
    simp [newRow]
   simp only [execOp,hop,Sem.run_bind]
   rw [key]
   simp [hlen]
 refine ⟨cells',e2,by rw [flat_length e2,k2];simp [hlen],hrun,fun q hq => ?_⟩
 have hq':q<cnt*td.size:=by rw [<-hlen,<-flat_length e2];exact hq
 rw [k3 q,if_pos (by simp [hps];exact hq')]
 have:=c2 q hq
 simpa [vals,Function.comp_def] using this
theorem step_buildSlice {t:TypeId} {cnt:Nat} {parts:Array (Nat×Operand)} (hop:o.op = .buildSlice t cnt parts):StepOk P σ o ss h':=by
 have hnd : ∀ c,o.op ≠ .defer c:=by simp [hop]
 simp only [evBase,hop] at h
 split at h
 ·rename_i sz e z ht
  split at h
  ·rename_i td hte
   split at h
   ·rename_i hc
    simp at hc
    obtain ⟨⟨⟨hps,hpos⟩,hbig⟩,hsome⟩:=hc
    split at h
    ·rename_i l hl
     obtain ⟨rfl,hcase⟩:=put_some h
     intro r n m G a w Q next hm R hn
     obtain ⟨e1,e2,e3⟩:=elems_ok hg R parts.toList 0 l hl
     obtain ⟨i,dd,hi,hdd,hsz,_,huok,z0,hz,hzs,hzl,hzc⟩:=hT.info hte
     let vals:List Value:=parts.toList.map fun p=>a.eval p.2
     have hlv:l.length=vals.length:=by simp [vals,e1]
     have hlen:l.length=cnt:=by rw [e1];simpa using hps
     have hrep : ∀ (j:Nat) (hj:j<l.length) (hj':j<vals.length),RepD G.K l[j] vals[j]:=by
      intro j hj hj'
      have:=(e3 j (by simpa [vals] using hj') hj).2
      simpa [vals] using this
     obtain ⟨c1,c2⟩:=flat_rep hpos hlv e2 hrep
     have hvu : ∀ p∈(parts.toList.map fun p=>(p.1,a.eval p.2)),p.2.cells.size=td.size:=by
      intro p hp
      obtain ⟨j,hj,rfl⟩:=List.mem_iff_getElem.1 hp
      simp at hj
      have:=(hrep j (by omega) (by simp [vals];omega)).cells.1
      simp [vals] at this
      simp [this]
      exact e2 _ (zp6 _)
     obtain ⟨cells',k1,k2,k3⟩:=fillSeq (parts.toList.map fun p=>(p.1,a.eval p.2)) 0 ((Array.range (cnt*td.size)).map (z0.cells[· % z0.cells.size]!)) (fun j hj=>by
      simp at hj ⊢
      have:=(e3 j (by simpa using hj) (by omega)).1
      simpa using this) hvu (by simp [hps])
     have hrun:(execOp a.eval o).run P w = .ok (.value (.slice (some ⟨w.heap.size,0,none⟩) l.length l.length)) (w.alloc (.cells cells' e)):=by
      have hb : ¬ 2 ^ 24<cnt*td.size:=by omega
      have k1':Instr.fill (fun i=>some (i*td.size,td.size)) ((Array.range (cnt*td.size)).map (z0.cells[· % z0.cells.size]!)) (parts.map fun p=>(p.1,a.eval p.2)).toList=some cells':=by
       simpa using k1
      by_cases h0:cnt*td.size=0
      ·have hc0:cnt=0:=by
        rcases Nat.mul_eq_zero.1 h0 with h | h
        ·exact h
        ·omega
       subst hc0
       have hcells:cells' = #[]:=by
        have:cells'.size=0:=by rw [k2];simp
        exact Array.eq_empty_of_size_eq_zero this
       subst hcells
       have hp0:parts = #[]:=by
        exact Array.eq_empty_of_size_eq_zero hps
       subst hp0
       simp [execOp,hop,Instr.buildSlice,Go.underlying,hT.slice ht,hT.size hte,Instr.fill,newRow,hlen]
       exact congrArg (fun c=>w.alloc (.cells c e)) (Array.eq_empty_of_size_eq_zero (by simp))
      ·have hne' : ¬ (cnt=0\/td.size=0):=by
        intro hh;exact h0 (Nat.mul_eq_zero.2 hh)
       have key:(Instr.buildSlice t cnt (parts.map fun p=>(p.1,a.eval p.2))).run P w = .ok (.slice (some ⟨w.heap.size,0,none⟩) cnt cnt) (w.alloc (.cells cells' e)):=by
        unfold Instr.buildSlice
        simp only [Sem.run_bind,Go.underlying,run_program,Result.andThen_ok,hT.slice ht,Sem.run_pure,hT.size hte,gt_iff_lt,if_neg hb,if_neg h0]
        simp only [zeroValue,typeInfo,Sem.run_bind,run_program,hi,hz,Result.andThen_ok,Sem.run_pure]
        rw [k1']
        simp [newRow]
       simp only [execOp,hop,Sem.run_bind]
       rw [key]
       simp [hlen]
     have hw1:w.heap=w.heap:=rfl
     rcases hcase with ⟨hdst,rfl⟩ | ⟨d,hdst,rfl,hlt,hbox⟩
     ·rw [hdst] at hsome;cases hsome
     ·obtain ⟨G',R',hext⟩:=R.newList (w1:=w) rfl rfl rfl rfl (Nat.le_refl _) (d:=d) (k:=td.size) (cap:=l.length) (l:=l) (vs:=cells') e hlt (by rw [<-hgd d hdst];exact hbox) e2 (Nat.le_refl _) (by rw [k2];simp [hlen])
       (fun q hq=>by
        have hq':q<cnt*td.size:=by rw [<-hlen,<-flat_length e2];exact hq
        rw [k3 q,if_pos (by simp [hps];exact hq')]
        have:=c2 q hq
        simpa [vals,Function.comp_def] using this)
      refine wp_value hnd hrun (hn G' _ _ ?_ (hext m))
      rw [hdst]
      have hmk:mkL an (some d) td.size l = .own td.size l\/mkL an (some d) td.size l = .lim td.size l:=by
       unfold mkL
       split
       ·split
        ·exact .inr rfl
        ·exact .inl rfl
       ·exact .inl rfl
      rcases hmk with hmk | hmk
      ·rw [hmk];exact R'
      ·rw [hmk]
       have hd':d<a.tmps.size:=by rw [R.size];exact hlt
       have R2:=R'.toLim (s:=d) (k:=td.size) (l:=l) (by simp [St.upd,St.get,esets,eget_eset]) (fun b n cap e=>by
        simp only [Act.put,getD_set _ _ _ _ hd',if_true] at e
        injection e with _ h1 h2;omega)
       rw [upd_upd] at R2
       have he:σ.upd ([(d,.own td.size l)]++[(d,.lim td.size l)]) none=σ.upd [(d,.lim td.size l)] none:=by
        simp only [St.upd,List.cons_append,List.nil_append,esets,List.foldl_cons,List.foldl_nil,eset_eset]
       rw [he] at R2;exact R2
    ·simp at h
   ·simp at h
  ·simp at h
 ·simp at h
end
theorem Rel.inPlace {G:Gh} {σ:St} {a:Act} {w:World} (R:Rel G σ a w) {s d k n cap:Nat} {l ys:List D} {b off:Nat} {z:Bool} (hs:σ.get s = .ownZ z k l) (hsv:a.tmps.getD s Go.undef = .slice (some ⟨b,off,none⟩) n cap)
  (hlt:d<σ.n) (hbox:(σ.get d).isBox=false) (hu:uniform k ys) {vs:List Value} (hvl:vs.length=(D.flat ys).length)
  (hv : ∀ (q:Nat) (hq:q<(D.flat ys).length),RepD G.K (D.flat ys)[q] (vs.getD q Go.undef)/\(vs.getD q Go.undef).oneCell'=true) (hfit:n+ys.length<=cap) (hys:ys≠[]) :
  n=l.length /\ ∃ cur e,w.heap[b]?=some (.cells cur e (0,0))/\off+cap*k<=cur.size /\ ∃ G',Rel G' (σ.upd [(s,.d (.list k l)),(d,.ownZ z k (l++ys))] none)
   (a.put (some d) (.slice (some ⟨b,off,none⟩) (n+ys.length) cap)) (w.setRow b (rowOf cur (off+n*k) vs)) /\ ∀ m,Ext m G w G' (w.setRow b (rowOf cur (off+n*k) vs)):=by
 have hrep:=R.slots s
 rw [hs,hsv,ownZ_rep] at hrep
 obtain ⟨hr,ht⟩:=hrep
 have hyp:0<ys.length:=List.length_pos_iff.2 hys
 obtain ⟨f,cur,e,hO,hf,hw,hsz,hoff0⟩:=ht _ _ _ rfl (by omega)
 dsimp only at hO hf hw hsz hoff0
 obtain ⟨rfl,hul,hcl,vs0,hK,h1,hh⟩:n=l.length/\uniform k l/\l.length<=cap /\ ∃ vs0:Nat->Value,(∀ j,j<(D.flat l).length->G.K ⟨b,off+j,none⟩=some (vs0 j))/\(∀ j,j<(D.flat l).length->(vs0 j).oneCell'=true) /\
   ∀ (j:Nat) (hj:j<(D.flat l).length),RepD G.K (D.flat l)[j] (vs0 j):=by
  generalize hv':Value.slice (some ⟨b,off,none⟩) n cap=v at hr
  cases hr with
  | nil=>simp at hv'
  | none0=>simp at hv';omega
  | list k l b' off' cap' vs0 hu hc hK h1 hh =>
    simp at hv'
    obtain ⟨⟨rfl,rfl⟩,rfl,rfl⟩:=hv'
    exact ⟨rfl,hu,hc,vs0,hK,h1,hh⟩
 refine ⟨rfl,cur,e,hw,hsz,?_⟩
 have hfl:=flat_length hul
 have hfy:=flat_length hu
 have hle:(l.length+ys.length)*k<=cap*k:=Nat.mul_le_mul_right k hfit
 have hadd:(l.length+ys.length)*k=l.length*k+ys.length*k:=Nat.add_mul _ _ _
 let lo:=off+l.length*k
 let hi:=off+(l.length+ys.length)*k
 have hcur:lo+vs.length<=cur.size:=by simp only [lo];omega
 let G':Gh:=(G.own b (.s d) hi).keep b lo hi (fun q=>vs.getD (q-lo) Go.undef)
 let w':=w.setRow b (rowOf cur lo vs)
 have hw':w'.heap[b]?=some (.cells (rowOf cur lo vs) e (0,0)):=setRow_heap _ _ _ _ _ _ hw
 have hother : ∀ b',b'≠b->w'.heap[b']?=w.heap[b']?:=fun b' hb=>setRow_other _ _ _ _ hb
 have hblt:=(R.h.disj _ _ _ hO).1
 have hfree:=(R.h.disj _ _ _ hO).2
 have hKle:KLe G.K G'.K:=by
  intro x v h
  simp only [G',Gh.keep,Gh.own]
  rw [if_neg];exact h
  rintro ⟨hb,hsp,h2,h3⟩
  obtain ⟨xb,xo,xs⟩:=x
  simp at hb hsp
  subst hb hsp
  rw [hfree xo (by simp only [lo] at h2;omega)] at h;cases h
 have hOold : ∀ b' x f',x ≠ .s s->G.O b'=some (x,f')->G'.O b'=some (x,f'):=by
  intro b' x f' hx h
  have:b'≠b:=by rintro rfl;rw [hO] at h;simp at h;exact hx h.1.symm
  simp [G',Gh.own,Gh.keep,this,h]
 have hpr:Pres G G' w w' (fun x=>x ≠ .s s) :=
  ⟨hKle,fun b' x f' hx h=>⟨hOold b' x f' hx h,hother b' (by rintro rfl;rw [hO] at h;simp at h;exact hx h.1.symm)⟩,fun _ _=>rfl,Nat.le_refl _⟩
 have hd':d<a.tmps.size:=by rw [R.size];exact hlt
 have hKnew : ∀ q,q<ys.length*k->G'.K ⟨b,lo+q,none⟩=some (vs.getD q Go.undef):=by
  intro q hq
  have c1:lo<=lo+q:=Nat.le_add_right _ _
  have c2:lo+q<hi:=by simp only [lo,hi];omega
  simp only [G',Gh.keep,Gh.own]
  rw [if_pos ⟨trivial,trivial,c1,c2⟩]
  congr 2;omega
 have hrepNew:RepD G'.K (.list k (l++ys)) (.slice (some ⟨b,off,none⟩) (l.length+ys.length) cap):=by
  have huu:uniform k (l++ys):=fun x hx=>by rcases List.mem_append.1 hx with hx | hx;exact hul x hx;exact hu x hx
  have:=RepD.list (K:=G'.K) k (l++ys) b off cap (fun j=>if j<l.length*k then vs0 j else vs.getD (j-l.length*k) Go.undef) huu (by simp;omega)
   (fun j hj => ?_) (fun j hj => ?_) (fun j hj => ?_)
  ·simpa using this
  all_goals rw [flat_append,List.length_append,hfl,hfy] at hj
  ·split
   ·exact hKle _ _ (hK j (by omega))
   ·have:=hKnew (j-l.length*k) (by omega)
    rwa [show lo+(j-l.length*k)=off+j by simp only [lo];omega] at this
  ·split
   ·exact h1 j (by omega)
   ·exact (hv _ (by omega)).2
  ·simp only [flat_append]
   split
   ·rw [List.getElem_append_left (by omega)]
    exact (hh j (by omega)).mono hKle
   ·rw [List.getElem_append_right (by omega)]
    have:=(hv (j-l.length*k) (by omega)).1.mono hKle
    simpa [hfl] using this
 refine ⟨G',⟨⟨⟨fun b' x f' h => ?_⟩,R.h.nh,fun i ob hob => ?_,fun x v h => ?_,fun b' x f' h => ?_⟩,by simpa [Act.put,St.upd] using R.size,?_,?_,?_⟩,fun m=>⟨hKle,fun x v h => ?_,fun b' hb h=>⟨?_,?_⟩,by simp,fun _ _=>rfl,rfl,rfl,fun a _=>frozen?_setRow' _ _ _ a,rfl,Nat.le_refl _⟩⟩
 ·simp only [G',Gh.own,Gh.keep] at h
  split at h
  ·simp at h;rw [<-h.1];simp [Loc.root]
  ·exact R.h.sane.no b' x f' h
 ·exact (R.h.objs i ob hob).pres R.h.sane (by rw [<-R.h.nh];exact (zp2.1 hob).1) hpr (by simp) (by simp)
 ·show w'.cell? x=some v
  simp only [G',Gh.keep,Gh.own] at h
  split at h
  ·rename_i hc
   obtain ⟨hb,hsp,h2,h3⟩:=hc
   obtain ⟨xb,xo,xs⟩:=x
   simp at hb hsp h2 h3 h
   subst hb hsp
   have hlt2:xo<cur.size:=by simp only [hi] at h3;omega
   rw [cell_at hw' (by rw [rowOf_size hcur];exact hlt2),rowOf_get hcur]
   rw [if_neg (by omega),if_pos (by simp only [hi,lo] at h3 h2 ⊢;omega)]
   simpa using h
  ·have hx:=R.h.kept x v h
   by_cases hxb:x.block=b
   ·have hsp:x.spot=none:=by
     unfold World.cell? at hx
     split at hx
     ·split at hx
      ·cases hx
      ·rename_i hsp;simpa using hsp
     ·cases hx
    obtain ⟨xb,xo,xs⟩:=x
    simp at hxb hsp
    subst hxb hsp
    have hlo:xo<lo:=by
     rcases Nat.lt_or_ge xo lo with h' | h'
     ·exact h'
     ·rw [hfree xo (by simp only [lo] at h';omega)] at h;cases h
    have hxs:xo<cur.size:=by omega
    rw [cell_at hw' (by rw [rowOf_size hcur];exact hxs),rowOf_get hcur,if_pos hlo]
    rwa [cell_at hw hxs] at hx
   ·unfold World.cell? at *
    rwa [hother _ hxb]
 ·simp only [G',Gh.own,Gh.keep] at h
  split at h
  ·rename_i hbe;subst hbe
   simp at h
   obtain ⟨_,rfl⟩:=h
   refine ⟨by simpa [w'] using hblt,fun j hj => ?_⟩
   simp only [G',Gh.keep,Gh.own]
   rw [if_neg (by intro hc;have:=hc.2.2.2;omega)]
   exact hfree j (by simp only [hi] at hj;omega)
  ·rename_i hbe
   have:=R.h.disj b' x f' h
   refine ⟨by simpa [w'] using this.1,fun j hj => ?_⟩
   simp only [G',Gh.keep,Gh.own]
   rw [if_neg (by intro hc;exact hbe hc.1)]
   exact this.2 j hj
 ·intro t
  simp only [Act.put,getD_set _ _ _ _ hd',St.upd,St.get,esets,List.foldl_cons,List.foldl_nil,eget_eset]
  split
  ·rename_i e';subst e'
   refine ownZ_rep.2 ⟨hrepNew,?_⟩
   intro a' n' cap' hv' _
   simp at hv'
   obtain ⟨rfl,rfl,rfl⟩:=hv'
   exact ⟨hi,_,e,by simp [G',Gh.own,Gh.keep],Nat.le_refl _,hw',by rw [rowOf_size hcur];exact hsz,hoff0⟩
  ·split
   ·rename_i e';subst e'
    rw [hsv]
    exact .d _ _ _ (hr.mono hKle)
   ·rename_i hne
    exact (R.slots t).pres R.h.sane hpr (by simp;exact fun e=>hne e.symm) (fun r' off' e'=>rfl) (fun t' e' hbx=>⟨rfl,by simp⟩)
 ·intro t r'' off' ht
  simp only [St.upd,St.get,esets,List.foldl_cons,List.foldl_nil,eget_eset] at ht ⊢
  split at ht
  ·exact absurd ht (by cases z <;> simp [AV.ownZ])
  ·split at ht
   ·cases ht
   ·obtain ⟨cs',hcs'⟩:=R.places t r'' off' ht
    split
    ·rename_i e;subst e;rw [show σ.get d=_ from hcs'] at hbox;simp [AV.isBox] at hbox
    ·split
     ·rename_i e;subst e;rw [hcs'] at hs;exact absurd hs (by cases z <;> simp [AV.ownZ])
     ·exact ⟨cs',hcs'⟩
 ·refine ⟨R.df.1,fun x hx => ?_⟩
  obtain ⟨r0,h1,h2,h3⟩:=R.df.2 x hx
  exact ⟨r0,h1,hOold _ _ _ (by simp) h2,by rw [hother _ (by rintro rfl;rw [hO] at h2;simp at h2)];exact h3⟩
 ·simp only [G',Gh.keep,Gh.own] at h
  split at h
  ·rename_i hc;exact .inr (.inl ⟨(.s s,f),by rw [hc.1];exact hO⟩)
  ·exact .inl h
 ·exact hother b' (by rintro rfl;rw [hO] at h;cases h)
 ·have:b'≠b:=by rintro rfl;rw [hO] at h;cases h
  simp [G',Gh.own,Gh.keep,this,h]
theorem growBy_le (need:Nat) : ∀ (r c:Nat),Builtin.growBy need r c<=max c (2*need+200)
 | 0,c=>by simp [Builtin.growBy];omega
 | r+1,c=>by
   unfold Builtin.growBy
   split
   ·omega
   ·have:=growBy_le need r (c+(c+768) / 4)
    omega
theorem nextslicecap_le {need cap:Nat} (h:cap<need):Builtin.nextslicecap need cap<=2*need+200:=by
 unfold Builtin.nextslicecap
 split
 ·omega
 ·split
  ·omega
  ·have:=growBy_le need 4 cap
   omega
theorem firstCells_run {P:Program} {G:Gh} {w:World} (hk : ∀ x v,G.K x=some v->w.cell? x=some v) {k:Nat} {l:List D} {v:Value} (h:RepD G.K (.list k l) v) :
  ∃ arr:Array Value,(Builtin.firstCells k l.length v).run P w = .ok arr w/\arr.size=(D.flat l).length/\uniform k l /\
    ∀ (q:Nat) (hq:q<(D.flat l).length),RepD G.K (D.flat l)[q] (arr.getD q Go.undef)/\(arr.getD q Go.undef).oneCell'=true:=by
 cases h with
 | nil=>exact ⟨#[],by simp [Builtin.firstCells],rfl,fun x hx=>by simp at hx,fun q hq=>by simp [D.flat] at hq⟩
 | none0 k a=>exact ⟨#[],by simp [Builtin.firstCells,loadCells,loadCellsFrom],rfl,fun x hx=>by simp at hx,fun q hq=>by simp [D.flat] at hq⟩
 | list k l b off cap vs hu hc hK h1 hh =>
   have hfl:=flat_length hu
   have hl:=run_loadCells (P:=P) w ⟨b,off,none⟩ (l.length*k) vs (fun j hj=>by rw [Addr.add_none];exact hk _ _ (hK j (by omega)))
   refine ⟨((List.range (l.length*k)).map vs).toArray,by simp [Builtin.firstCells,hl],by simp [hfl],hu,fun q hq => ?_⟩
   have:((List.range (l.length*k)).map vs).toArray.getD q Go.undef=vs q:=by
    simp [show q<l.length*k by omega]
   rw [this]
   exact ⟨hh q hq,h1 q hq⟩
theorem Rel.drew {G:Gh} {σ:St} {a:Act} {w w1:World} (R:Rel G σ a w) (h:w1.heap=w.heap):Rel G σ a w1:=by
 have hpr:Pres G G w w1 (fun _=>True):=⟨KLe.refl _,fun b x f _ hO=>⟨hO,by rw [h]⟩,fun _ _=>rfl,Nat.le_refl _⟩
 have hc : ∀ x,w1.cell? x=w.cell? x:=by intro x;unfold World.cell?;rw [h]
 refine ⟨⟨R.h.sane,R.h.nh,fun i ob hob=>(R.h.objs i ob hob).pres R.h.sane (by rw [<-R.h.nh];exact (zp2.1 hob).1) hpr trivial (fun _=>trivial),
  fun x v hx=>by rw [hc];exact R.h.kept x v hx,fun b ℓ f hO=>by rw [h];exact R.h.disj b ℓ f hO⟩,R.size,fun t=>(R.slots t).pres R.h.sane hpr trivial (fun _ _ _=>rfl) (fun _ _ _=>⟨rfl,fun _=>trivial⟩),R.places,?_⟩
 exact ⟨R.df.1,fun d hd=>by obtain ⟨r,h1,h2,h3⟩:=R.df.2 d hd;exact ⟨r,h1,h2,by rw [h];exact h3⟩⟩
theorem Ext.drew {m:Nat} {G:Gh} {w w1:World} (h:w1.heap=w.heap) (h1:w1.os=w.os) (h2:w1.output=w.output) (h3:w1.tape=w.tape:=by rfl) (h4:w.drawn<=w1.drawn:=by first | exact Nat.le_refl _ | exact Nat.le_succ _ | (simp;done) | (simp;omega)):Ext m G w G w1 :=
 ⟨KLe.refl _,fun _ _ h => .inl h,fun b _ hO=>⟨by rw [h],hO⟩,by rw [h];exact Nat.le_refl _,fun _ _=>rfl,h1,h2,(fun a _=>by unfold World.frozen?;rw [h]),h3,h4⟩
theorem listOf_src {P:Program} {T:Types} {σ:St} {g:Nat->AV} (hg:Less g σ) {k1:Nat} {y:Operand} {u:TypeId} {ys:List D} (hy:listOf T g u y=some (k1,ys)) {G:Gh} {a:Act} {w:World} (R:Rel G σ a w) :
  uniform k1 ys/\(∃ b cap,a.eval y = .slice b ys.length cap) /\ ∀ w':World,w'.heap=w.heap -> ∃ arr:Array Value,(Builtin.firstCells k1 ys.length (a.eval y)).run P w' = .ok arr w'/\arr.size=(D.flat ys).length /\
   ∀ (q:Nat) (hq:q<(D.flat ys).length),RepD G.K (D.flat ys)[q] (arr.getD q Go.undef)/\(arr.getD q Go.undef).oneCell'=true:=by
 have hys:=listOf_ok hg hy R
 refine ⟨(firstCells_run (P:=P) R.h.kept hys).choose_spec.2.2.1,?_,fun w' hw => ?_⟩
 ·rcases hys.slice with ⟨rfl,oa,hv⟩ | ⟨b,off,cap,hv⟩
  ·exact ⟨_,_,hv⟩
  ·exact ⟨_,_,hv⟩
 ·obtain ⟨arr,h1,h2,_,h4⟩:=firstCells_run (P:=P) (w:=w') (fun x v hx=>by
   have:=R.h.kept x v hx
   unfold World.cell? at *
   rwa [hw]) hys
  exact ⟨arr,h1,h2,h4⟩
theorem append_core {P:Program} {T:Types} (hT:TOk P T) {σ:St} {g:Nat->AV} {o:Oper} (hg:Less g σ) (hgd : ∀ d,o.dst=some d->g d=σ.get d) {s d k1:Nat} {y:Operand} {t u:TypeId} {l ys:List D} {z:Bool}
  (hop:o.op = .call { callee := .builtin .append,args := #[.tmp s,y],argTypes := #[t,u] }) (ht:elemSize T t=some k1) (hu':elemSize T u=some k1)
  (hsrc : ∀ {G:Gh} {a:Act} {w:World},Rel G σ a w->uniform k1 ys/\(∃ b cap,a.eval y = .slice b ys.length cap) /\ ∀ w':World,w'.heap=w.heap -> ∃ arr:Array Value,(Builtin.firstCells k1 ys.length (a.eval y)).run P w' = .ok arr w'/\arr.size=(D.flat ys).length /\
   ∀ (q:Nat) (hq:q<(D.flat ys).length),RepD G.K (D.flat ys)[q] (arr.getD q Go.undef)/\(arr.getD q Go.undef).oneCell'=true) (hdst:o.dst=some d)
  (hs:σ.get s = .ownZ z k1 l\/(σ.get s = .lim k1 l/\ys≠[]/\z=true)) (hz:z=false->ys≠[]) (_:0<k1) (hlt:d<σ.n) (hbx:(g d).isBox=false) (hsd : ¬ s=d) (hfits:(l.length:Int)+ys.length<4294967296) :
  StepOk P σ o [(s,.d (.list k1 l)),(d,.ownZ z k1 (l++ys))] none:=by
 have hnd : ∀ c,o.op ≠ .defer c:=by simp [hop]
 obtain ⟨sz,e,zz,td,hTt,hTe,hks⟩:=elemSize_some ht
 obtain ⟨sz1,e1,zz1,td1,hTt1,hTe1,hks1⟩:=elemSize_some hu'
 have hdb:(σ.get d).isBox=false:=by rw [<-hgd d hdst];exact hbx
 obtain ⟨ie,dd,hie,hdd,hsz,hbytes,huok,z0,hz,hzs,hzl,hzc⟩:=hT.info hTe
 intro r n m G a w Q next hm R hn
 obtain ⟨f3,hyl,hfc⟩:=hsrc R
 obtain ⟨arrY,f1,f2,f4⟩:=hfc w rfl
 have hrep:=R.slots s
 have hev:a.eval (.tmp s)=a.tmps.getD s Go.undef:=rfl
 generalize hsv:a.tmps.getD s Go.undef=sv at hrep
 have hr:RepD G.K (.list k1 l) sv:=by
  rcases hs with hs | ⟨hs,_⟩
  ·rw [hs,ownZ_rep] at hrep;exact hrep.1
  ·rw [hs] at hrep;cases hrep;assumption
 have hlim : ∀ b n cap,sv = .slice b n cap->σ.get s = .ownZ z k1 l\/(n=cap/\ys≠[]):=by
  intro b n cap e
  rcases hs with hs | ⟨hs,hne⟩
  ·exact .inl hs
  ·rw [hs] at hrep
   cases hrep with | lim _ _ _ _ _ ht=>exact .inr ⟨ht _ _ _ e,hne.1⟩
 clear hrep
 obtain ⟨arrS,s1,s2,s3,s4⟩:=firstCells_run (P:=P) R.h.kept hr

 obtain ⟨by',cy,hyv⟩:=hyl
 rw [hyv] at f1
 have hsl : ∃ b cap,sv = .slice b l.length cap/\(b=none->cap=0):=by
  rcases hr.slice with ⟨rfl,oa,hv⟩ | ⟨b,off,cap,hv⟩
  ·exact ⟨_,_,hv,fun _=>rfl⟩
  ·exact ⟨_,_,hv,fun h=>by cases h⟩
 obtain ⟨bs,cs,rfl,hbn⟩:=hsl
 have huni:uniform k1 (l++ys):=fun x hx=>by rcases List.mem_append.1 hx with hx | hx;exact s3 x hx;exact f3 x hx
 have hnz : ∀ w:World,(Go.underlying u).run P w = .ok (.slice e1) w:=by intro w;simp [Go.underlying,hT.slice hTt1]
 have hs':σ.get s = .own k1 l\/σ.get s = .lim k1 l\/σ.get s = .tail k1 l:=by
  rcases hs with hs | ⟨hs,_⟩
  ·cases z
   ·exact .inr (.inr hs)
   ·exact .inl hs
  ·exact .inr (.inl hs)
 by_cases hcap:l.length+ys.length<=cs
 ·
  have hso:σ.get s = .ownZ z k1 l:=by
   rcases hlim _ _ _ rfl with hs | ⟨hn,hne⟩
   ·exact hs
   ·have hyp:0<ys.length:=List.length_pos_iff.2 hne
    omega
  by_cases hy0:ys=[]
  ·obtain rfl:z=true:=by cases z with | true=>rfl | false=>exact absurd hy0 (hz rfl)
   have hso:σ.get s = .own k1 l:=hso
   subst hy0
   have harr:arrY = #[]:=Array.eq_empty_of_size_eq_zero (by simpa [D.flat] using f2)
   subst harr
   have hrun:(execOp a.eval o).run P w = .ok (.value (.slice bs l.length cs)) w:=by
    have hcap':l.length<=cs:=by simpa using hcap
    simp at f1
    cases bs with
    | none=>simp [execOp,hop,resolve,invoke,Go.builtin,Builtin.append_,hev,hsv,hyv,Go.underlying,hT.slice hTt,hT.slice hTt1,hT.size hTe,Builtin.lenOf,hks,f1,hcap']
    | some b=>simp [execOp,hop,resolve,invoke,Go.builtin,Builtin.append_,hev,hsv,hyv,Go.underlying,hT.slice hTt,hT.slice hTt1,hT.size hTe,Builtin.lenOf,hks,f1,hcap',storeCells]
   obtain ⟨R1,hrep1⟩:=R.give hso (.s d) (by simp [Loc.root])
   refine wp_value hnd hrun (hn _ _ _ ?_ (Ext.move m G w (.s s) (.s d)))
   rw [hdst]
   rw [hsv] at hrep1
   have hb1:((σ.upd [(s,.d (.list k1 l))] none).get d).isBox=false:=by
    simp only [St.upd,St.get,esets,List.foldl_cons,List.foldl_nil,eget_eset,if_neg hsd];exact hdb
   have:=R1.put (d:=d) hrep1 (fun r off e=>by cases e) hb1 hlt
   rw [upd_upd] at this
   simpa [AV.ownZ] using this
  ·cases bs with
   | none =>
     have:=hbn rfl
     have hyp:0<ys.length:=List.length_pos_iff.2 hy0
     omega
   | some ad =>
     obtain ⟨b,off,spot⟩:=ad
     have hspot:spot=none:=by
      rcases hr.slice with ⟨_,oa,hv⟩ | ⟨b',off',cap',hv⟩
      ·simp at hv
       have hyp:0<ys.length:=List.length_pos_iff.2 hy0
       omega
      ·simp at hv;exact hv.1.2.2
     subst hspot
     obtain ⟨_,cur,ec,hw,hcs,G',R',hext⟩:=R.inPlace (vs:=arrY.toList) hso hsv hlt hdb f3 (by simpa using f2)
      (fun q hq=>by have:=f4 q hq;simpa [List.getD,zp5] using this) hcap hy0
     have hlen:arrY.toList.length=ys.length*k1:=by rw [<-flat_length f3];simpa using f2
     have hmul:(l.length+ys.length)*k1<=cs*k1:=Nat.mul_le_mul_right k1 hcap
     have hst:=run_storeCells_at P b (off+l.length*k1) ec arrY.toList 0 cur w hw (by rw [Nat.add_mul] at hmul;omega) (fun v hv=>by
      obtain ⟨q,hq,rfl⟩:=List.mem_iff_getElem.1 hv
      have:=(f4 q (by simp at hq;omega)).2
      have hq':q<arrY.size:=by simpa using hq
      simpa [Array.getD,hq'] using this)
     have hrun:(execOp a.eval o).run P w = .ok (.value (.slice (some ⟨b,off,none⟩) (l.length+ys.length) cs)) (w.setRow b (rowOf cur (off+l.length*k1) arrY.toList)):=by
      simp only [Nat.add_zero] at hst
      simp [execOp,hop,resolve,invoke,Go.builtin,Builtin.append_,hev,hsv,hyv,Go.underlying,hT.slice hTt,hT.slice hTt1,hT.size hTe,Builtin.lenOf,hks,f1,hcap,Addr.add_none,hst,rowOf]
     refine wp_value hnd hrun (hn G' _ _ ?_ (hext m))
     rw [hdst];exact R'
 ·
  have R1:=R.demote hs'
  have hneed:l.length+ys.length<4294967296:=by omega
  have hbig : ¬ Builtin.nextslicecap (l.length+ys.length) cs*ie.bytes>2 ^ 48:=by
   have h1:=nextslicecap_le (need:=l.length+ys.length) (cap:=cs) (by omega)
   have h2:Builtin.nextslicecap (l.length+ys.length) cs*ie.bytes<=(2*(l.length+ys.length)+200)*4096:=Nat.mul_le_mul h1 hbytes
   omega
  have hmax : ¬ (((l.length+ys.length:Nat):Int)>IntKind.i64.max):=by
   have:IntKind.i64.max=9223372036854775807:=by decide
   omega
  let qn:=Question.appendCap (l.length+ys.length) cs e
  have hforced:qn.forced=false:=rfl
  let nc:=qn.cut (w.tape w.drawn qn)
  let wd:=w.drew
  have hwd:wd.heap=w.heap:=rfl
  have hwdos:wd.os=w.os:=rfl
  have hwdout:wd.output=w.output:=rfl
  have hnc:l.length+ys.length<=nc:=by simp [nc,qn,Question.cut]
  let rest:=Builtin.zeroCells z0.cells (nc-(l.length+ys.length))
  have hrest:rest.size=(nc-(l.length+ys.length))*k1:=by simp [rest,Builtin.zeroCells,hzs,hks]
  have hkd : ∀ x v,G.K x=some v->wd.cell? x=some v:=by
   intro x v hx
   have:=R.h.kept x v hx
   unfold World.cell? at *
   rwa [hwd]
  obtain ⟨arrY,f1,f2,f4⟩:=hfc wd hwd
  obtain ⟨arrS,s1,s2,_,s4⟩:=firstCells_run (P:=P) hkd hr
  rw [hyv] at f1
  have hrun:(execOp a.eval o).run P w = .ok (.value (.slice (some ⟨w.heap.size,0,none⟩) (l.length+ys.length) nc)) (wd.alloc (.cells (arrS++arrY++rest) e)):=by
   have hcap' : ¬ l.length+ys.length<=cs:=hcap
   have key:(Builtin.append_ #[t,u] o.type #[.slice bs l.length cs,a.eval y]).run P w = .ok (.slice (some ⟨w.heap.size,0,none⟩) (l.length+ys.length) nc) (wd.alloc (.cells (arrS++arrY++rest) e)):=by
    unfold Builtin.append_
    simp [Go.underlying,hT.slice hTt,hT.slice hTt1,hT.size hTe,Builtin.lenOf,hyv,hcap',hks,typeInfo,hie,hbig]
    have hmax' : ¬ ((9223372036854775807:Int)<(l.length:Int)+(ys.length:Int)/\ie.bytes=0):=by
     intro hh;omega
    rw [if_neg hmax']
    have hforced':(Question.appendCap (l.length+ys.length) cs e).forced=false:=rfl
    simp only [hforced',Bool.false_eq_true,if_false]
    rw [show (Builtin.firstCells k1 l.length (Value.slice bs l.length cs)).run P w.drew=_ from s1]
    simp only [Result.andThen_ok]
    rw [show (Builtin.firstCells k1 ys.length (Value.slice by' ys.length cy)).run P w.drew=_ from f1]
    simp only [Result.andThen_ok,zeroValue,typeInfo,Sem.run_bind,run_program,hie,hz,Sem.run_pure,newRow,run_newObj]
    simp [rest,nc,qn,wd]
    rfl
   simp only [execOp,hop,resolve,invoke,Go.builtin,Sem.run_bind,Sem.run_pure,Result.andThen_ok]
   simp [hev,hsv,key]
  have hfl:=flat_length s3
  have hfy:=flat_length f3
  have hb1:((σ.upd [(s,.d (.list k1 l))] none).get d).isBox=false:=by
   simp only [St.upd,St.get,esets,List.foldl_cons,List.foldl_nil,eget_eset,if_neg hsd];exact hdb
  obtain ⟨G',R',hext⟩:=R1.newList (w1:=wd) hwd hwdos hwdout rfl (Nat.le_succ _) (d:=d) (k:=k1) (cap:=nc) (l:=l++ys) (vs:=arrS++arrY++rest) e hlt hb1 huni (by simpa using hnc) (by
    have:(arrS++arrY++rest).size=nc*k1:=by
     simp only [Array.size_append,s2,f2,hfl,hfy,hrest]
     rw [<-Nat.add_mul,<-Nat.add_mul];congr 1;omega
    omega)
   (fun q hq=>by
    simp only [flat_append] at hq ⊢
    have e0:(arrS++arrY++rest).getD q Go.undef=if q<arrS.size then arrS.getD q Go.undef else arrY.getD (q-arrS.size) Go.undef:=by
     simp only [List.length_append] at hq
     simp only [zp5]
     split
     ·rename_i hq1
      rw [Array.getElem?_append_left (by simp;omega),Array.getElem?_append_left hq1]
     ·rename_i hq1
      rw [Array.getElem?_append_left (by simp;omega),Array.getElem?_append_right (by omega)]
    rw [e0]
    by_cases hq1:q<arrS.size
    ·rw [if_pos hq1,List.getElem_append_left (by omega)]
     exact s4 q (by omega)
    ·rw [if_neg hq1,List.getElem_append_right (by omega)]
     have:=f4 (q-arrS.size) (by simp at hq;omega)
     simpa [s2] using this)
  refine wp_value hnd hrun (hn G' _ _ ?_ (hext m))
  rw [hdst]
  rw [upd_upd] at R'
  have hsd':s≠d:=hsd
  have R2:=R'.loosen (s:=d) (k:=k1) (l:=l++ys) (z:=z) (by simp [St.upd,St.get,esets,eget_eset])
  rw [upd_upd] at R2
  have he : ∀ (σ:St) (v:AV),σ.upd [(s,.d (.list k1 l)),(d,.own k1 (l++ys)),(d,v)] none=σ.upd [(s,.d (.list k1 l)),(d,v)] none:=by
   intro σ v
   simp only [St.upd,esets,List.foldl_cons,List.foldl_nil,eset_eset]
  simp only [List.cons_append,List.nil_append,he] at R2
  simpa using R2
section
variable {P:Program} {T:Types} (hT:TOk P T) {σ:St} {g:Nat->AV} {o:Oper} {ss:Sets} {h':Option (List Obj)} {H:List Obj} {an:Ann}
 (hg:Less g σ) (hgd : ∀ d,o.dst=some d->g d=σ.get d) (h:evBase Ar.std T an σ.n g H o=some (ss,h'))
include hT hg hgd h
theorem step_append {args:Array Operand} {ts:Array TypeId} (hop:o.op = .call { callee := .builtin .append,args:=args,argTypes:=ts }):StepOk P σ o ss h':=by
 have hnd : ∀ c,o.op ≠ .defer c:=by simp [hop]
 simp only [evBase,hop] at h
 split at h
 ·rename_i x y t u hargs hts
  obtain rfl:args = #[x,y]:=by cases args;simp_all
  obtain rfl:ts = #[t,u]:=by cases ts;simp_all
  split at h
  ·rename_i k0 k1 k ys s d ht hu' hy hdst
   have h2 : ∃ l,(g s = .own k l\/(g s = .lim k l/\ys≠[]))/\k0=k/\k1=k/\0<k/\d<σ.n/\(g d).isBox=false /\ ¬ s=d/\(l.length:Int)+ys.length<4294967296/\ss=[(s,.d (.list k l)),(d,.own k (l++ys))]/\h'=none:=by
    split at h
    ·rename_i k' l hgs
     split at h
     ·rename_i hc
      simp [Ar.std] at hc
      obtain ⟨⟨⟨⟨⟨⟨⟨rfl,rfl⟩,rfl⟩,hpos⟩,hlt⟩,hbx⟩,hsd⟩,hfits⟩:=hc
      simp [Ar.std] at h
      exact ⟨l,.inl hgs,rfl,rfl,hpos,hlt,hbx,hsd,hfits,h.1.symm,h.2.symm⟩
     ·simp at h
    ·rename_i k' l hgs
     split at h
     ·rename_i hc
      simp [Ar.std] at hc
      obtain ⟨⟨⟨⟨⟨⟨⟨⟨hcons,rfl⟩,rfl⟩,rfl⟩,hpos⟩,hlt⟩,hbx⟩,hsd⟩,hfits⟩:=hc
      simp [Ar.std] at h
      exact ⟨l,.inr ⟨hgs,by rintro rfl;cases hcons⟩,rfl,rfl,hpos,hlt,hbx,hsd,hfits,h.1.symm,h.2.symm⟩
     ·simp at h
    ·simp at h
   obtain ⟨l,hgs,rfl,rfl,hpos,hlt,hbx,hsd,hfits,rfl,rfl⟩:=h2
   refine append_core (z:=true) hT hg hgd hop ht hu' (fun R=>listOf_src hg hy R) hdst ?_ (fun h=>by cases h) hpos hlt hbx hsd hfits
   rcases hgs with hgs | ⟨hgs,hne⟩
   ·have h9:=hg.eq hgs (by simp);exact .inl h9
   ·exact .inr ⟨hg.eq hgs (by simp),hne,rfl⟩
  ·simp at h
 ·simp at h
end
end Go.Am

set_option linter.unusedVariables false
namespace Go.Am
open Go
theorem conf_length : ∀ {ks:List CK} {xs:List D},confD ks xs=true->xs.length=ks.length
 | [],[],_=>rfl
 | [],_::_,h=>by simp [confD] at h
 | _::_,[],h=>by simp [confD] at h
 | k::ks,x::xs,h=>by
   simp only [confD,zp4] at h
   simp [conf_length h.2]
theorem conf_append : ∀ {ks ks':List CK} {xs:List D},confD (ks++ks') xs=true->confD ks (xs.take ks.length)=true/\confD ks' (xs.drop ks.length)=true
 | [],ks',xs,h=>⟨by simp [confD],by simpa using h⟩
 | k::ks,ks',[],h=>by simp [confD] at h
 | k::ks,ks',x::xs,h=>by
   simp only [List.cons_append,confD,zp4] at h
   obtain ⟨h1,h2⟩:=conf_append h.2
   simp only [List.length_cons,List.take_succ_cons,List.drop_succ_cons,confD,zp4]
   exact ⟨⟨h.1,h1⟩,h2⟩
theorem fits_rep {K:Addr->Option Value} {k:CK} {x:D} {v:Value} (hf:k.fits x=true) (h:RepD K x v):v=x.sval:=by
 cases k <;> cases x <;> simp [CK.fits] at hf <;> cases h <;> rfl
theorem conf_rep {K:Addr->Option Value} : ∀ {ks:List CK} {xs:List D} {vs:List Value},confD ks xs=true->vs.length=xs.length->(∀ (i:Nat) (hi:i<xs.length),RepD K xs[i] (vs.getD i Go.undef))->vs=xs.map D.sval
 | [],[],[],_,_,_=>rfl
 | k::ks,x::xs,[],_,hl,_=>by simp at hl
 | k::ks,x::xs,v::vs,h,hl,hr=>by
   simp only [confD,zp4] at h
   have h0:=hr 0 (by simp)
   simp only [List.getElem_cons_zero,List.getD_cons_zero] at h0
   rw [fits_rep h.1 h0,conf_rep (K:=K) (ks:=ks) (xs:=xs) (vs:=vs) h.2 (by simpa using hl) (fun i hi=>by
    have:=hr (i+1) (by simp;omega)
    simpa using this)]
   rfl
 | [],_::_,_,h,_,_=>by simp [confD] at h
 | _::_,[],_,h,_,_=>by simp [confD] at h
section
variable {P:Program} {T:Types} (hT:TOk P T)
include hT
theorem ksOf_size {n:Nat} {t:TypeId} {ks:List CK} (h:ksOf T n t=some ks) : ∃ m td,n=m+1/\T t=some td/\ksU (ksOf T m) td.u=some ks/\ks.length=td.size:=by
 cases n with
 | zero=>simp [ksOf] at h
 | succ m =>
   simp only [ksOf] at h
   split at h
   ·rename_i td ht
    split at h
    ·rename_i ks' hk
     split at h
     ·rename_i hl;cases h;exact ⟨m,td,rfl,ht,hk,hl⟩
     ·cases h
    ·cases h
   ·cases h
theorem part_ks {n:Nat} {t:TypeId} {ks:List CK} (h:ksOf T n t=some ks) {td:TD} (ht:T t=some td) {xs:List D} {off:Nat} (hoff:off+ks.length<=xs.length) (w:World) :
  (part t (xs.map D.sval).toArray off).run P w = .ok (mkV td.isAgg ((xs.drop off).take ks.length)) w:=by
 obtain ⟨m,td',rfl,ht',hk,hl⟩:=ksOf_size hT h
 rw [ht] at ht';cases ht'
 unfold part
 simp only [Sem.run_bind,hT.isAgg ht,Result.andThen_ok]
 by_cases ha:td.isAgg=true
 ·simp only [ha,if_true,Sem.run_bind,hT.size ht,Result.andThen_ok,Sem.run_pure,mkV]
  congr 2
  apply Array.ext'
  simp [Array.toList_extract,List.extract,hl]
 ·simp only [ha,Bool.false_eq_true,if_false,mkV]
  have h1:ks.length=1:=by
   obtain ⟨sz,u,z⟩:=td
   cases u <;> simp [ksU] at hk <;> first | (subst hk;rfl) | (simp [TD.isAgg] at ha)
  rw [h1]
  have hlt:off<xs.length:=by omega
  have e:(xs.drop off).take 1=[xs[off]]:=by
   rw [List.take_one,List.head?_drop,zp1 hlt];rfl
  simp [e,hlt]
theorem eqGuard_ks : ∀ {n:Nat} {t:TypeId} {ks:List CK},ksOf T n t=some ks -> ∀ d,n<=d->P.eqGuardType d t=false:=by
 intro n
 induction n with
 | zero=>intro t ks h;simp [ksOf] at h
 | succ n ih =>
   intro t ks h d hd
   obtain ⟨m,td,e,ht,hk,hl⟩:=ksOf_size hT h
   obtain rfl:m=n:=by omega
   cases d with
   | zero=>omega
   | succ d =>
     obtain ⟨de,hde,hu⟩:=hT.under ht
     unfold Program.eqGuardType
     rw [hde]
     obtain ⟨sz,u,z⟩:=td
     cases u <;> cases de <;> simp [uOk] at hu <;> simp [ksU] at hk <;> simp only
     ·rename_i m' e' n' e''
      obtain ⟨rfl,rfl⟩:=hu
      split at hk
      ·rename_i ks' hks'
       exact ih hks' d (by omega)
      ·cases hk
     ·rename_i fs fields
      rw [Array.any_eq_false]
      intro i hi
      have key : ∀ (l:List (TypeId×Nat)) (o:Nat) (ks:List CK),ksFs (ksOf T m) o l=some ks -> ∀ p∈l,P.eqGuardType d p.1=false:=by
       intro l
       induction l with
       | nil=>intro o ks _ p hp;simp at hp
       | cons q l ihl =>
         intro o ks h p hp
         obtain ⟨t',off⟩:=q
         simp only [ksFs] at h
         split at h
         ·split at h
          ·rename_i ks1 h1
           split at h
           ·rename_i ks2 h2
            rcases List.mem_cons.1 hp with rfl | hp
            ·exact ih h1 d (by omega)
            ·exact ihl _ _ h2 p hp
           ·cases h
          ·cases h
         ·cases h
      have:=key fs 0 ks hk (fields[i].type,fields[i].offset) (by rw [<-hu];exact List.mem_map.2 ⟨fields[i],Array.mem_toList_iff.2 (Array.getElem_mem hi),rfl⟩)
      simp [this]
omit hT in
theorem run_equalIn_str (w:World) (d:Nat) (t:TypeId) (a b:ByteArray) (h:P.underlying t=some .string):(Op.equalIn (d+1) t (.string a) (.string b)).run P w = .ok (a == b) w:=by
 simp [Op.equalIn,run_underlying h]
theorem equalIn_ks : ∀ {n:Nat} {t:TypeId} {ks:List CK} {td:TD},ksOf T n t=some ks->T t=some td -> ∀ {xs ys:List D},confD ks xs=true->confD ks ys=true -> ∀ (d:Nat),n<=d -> ∀ w:World,
  ∃ r:Bool,(Op.equalIn d t (mkV td.isAgg xs) (mkV td.isAgg ys)).run P w = .ok r w/\(r=true↔xs=ys):=by
 intro n
 induction n with
 | zero=>intro t ks td h;simp [ksOf] at h
 | succ n ih =>
   intro t ks td h ht xs ys hx hy d hd w
   obtain ⟨m,td',e,ht',hk,hl⟩:=ksOf_size hT h
   rw [ht] at ht';cases ht'
   obtain rfl:m=n:=by omega
   cases d with
   | zero=>omega
   | succ d =>
     obtain ⟨de,hde,hu⟩:=hT.under ht
     obtain ⟨de',hde',hek⟩:=hT.eqKnown ht
     rw [hde] at hde';cases hde'
     have hmd:m<=d:=by omega
     have hxl:=conf_length hx
     have hyl:=conf_length hy
     obtain ⟨sz,u,z⟩:=td
     cases u <;> cases de <;> simp [uOk] at hu <;> simp only [ksU] at hk <;> (try (cases hk;done))
     ·
      rename_i m' e' n' e''
      obtain ⟨rfl,rfl⟩:=hu
      split at hk
      ·rename_i ks1 hks1
       cases hk
       obtain ⟨m2,tde,_,hte,_,hle⟩:=ksOf_size hT hks1
       obtain ⟨ie,dde,hie,hdde,hisz,_⟩:=hT.info hte
       have hce:P.cellsOf e'=ks1.length:=by rw [hle];simp [Program.cellsOf,hie,hisz]
       simp only [mkV,TD.isAgg,if_true]
       rw [run_equalIn_array w d _ _ hde hie,hce]
       have hxl':xs.length=m'*ks1.length:=by rw [hxl];simp [List.length_flatten]
       have hyl':ys.length=m'*ks1.length:=by rw [hyl];simp [List.length_flatten]
       have key : ∀ (q j:Nat),j+q=m'->confD (List.replicate q ks1).flatten (xs.drop (j*ks1.length))=true->confD (List.replicate q ks1).flatten (ys.drop (j*ks1.length))=true ->
         ∃ r:Bool,(Op.eqItems d e' ks1.length (xs.map D.sval).toArray (ys.map D.sval).toArray (List.range' j q)).run P w = .ok r w/\(r=true↔xs.drop (j*ks1.length)=ys.drop (j*ks1.length)):=by
        intro q
        induction q with
        | zero =>
          intro j hj _ _
          refine ⟨true,by simp [Op.eqItems],?_⟩
          obtain rfl:j=m':=by omega
          rw [List.drop_eq_nil_of_le (by omega:xs.length<=_),List.drop_eq_nil_of_le (by omega:ys.length<=_)]
          simp
        | succ q ihq =>
          intro j hj h1 h2
          simp only [List.replicate_succ,List.flatten_cons] at h1 h2
          obtain ⟨a1,a2⟩:=conf_append h1
          obtain ⟨b1,b2⟩:=conf_append h2
          have hjm:j*ks1.length+ks1.length<=m'*ks1.length:=by rw [<-Nat.succ_mul];exact Nat.mul_le_mul_right _ (by omega)
          obtain ⟨r,hr,hiff⟩:=ih hks1 hte a1 b1 d hmd w
          rw [List.drop_drop,<-Nat.succ_mul] at a2 b2
          obtain ⟨r',hr',hiff'⟩:=ihq (j+1) (by omega) a2 b2
          simp only [List.range'_succ,Op.eqItems,Sem.run_bind,part_ks hT hks1 hte (xs:=xs) (off:=j*ks1.length) (by omega),part_ks hT hks1 hte (xs:=ys) (off:=j*ks1.length) (by omega),Result.andThen_ok,hr]
          have split:xs.drop (j*ks1.length)=ys.drop (j*ks1.length)↔((xs.drop (j*ks1.length)).take ks1.length=(ys.drop (j*ks1.length)).take ks1.length/\xs.drop ((j+1)*ks1.length)=ys.drop ((j+1)*ks1.length)):=by
           rw [Nat.succ_mul,<-List.drop_drop,<-List.drop_drop]
           constructor
           ·intro e;rw [e];exact ⟨rfl,rfl⟩
           ·rintro ⟨e1,e2⟩
            rw [<-List.take_append_drop ks1.length (xs.drop (j*ks1.length)),<-List.take_append_drop ks1.length (ys.drop (j*ks1.length)),e1,e2]
          rw [split]
          cases r
          ·exact ⟨false,by simp,by simp;intro e;exact absurd (hiff.2 e) (by simp)⟩
          ·refine ⟨r',by simpa using hr',?_⟩
           rw [hiff',<-hiff]
           simp
       have:=key m' 0 (by omega) (by simpa using hx) (by simpa using hy)
       simpa [List.range_eq_range'] using this
      ·cases hk
     ·
      rename_i fs fields
      simp only [eqKnown,zp4,Bool.not_eq_true',decide_eq_true_eq] at hek
      obtain ⟨_,hst,hnames⟩:=hek
      simp only [mkV,TD.isAgg,if_true]
      have hfo:P.fieldsOf t=fields:=by simp [Program.fieldsOf,hde]
      rw [run_equalIn_struct w d t _ _ (by rw [hfo];exact hde) hst,hfo]
      have key : ∀ (L:List Field) (l:List (TypeId×Nat)) (o:Nat) (ks:List CK),L.map (fun f=>(f.type,f.offset))=l->(∀ f∈L,f.name ≠ "_")->ksFs (ksOf T m) o l=some ks ->
        confD ks (xs.drop o)=true->confD ks (ys.drop o)=true->(o<=xs.length)->(o<=ys.length) ->
        ∃ r:Bool,(Op.eqFields d (xs.map D.sval).toArray (ys.map D.sval).toArray L).run P w = .ok r w/\(r=true↔xs.drop o=ys.drop o):=by
       intro L
       induction L with
       | nil =>
         intro l o ks he _ hks h1 h2 _ _
         subst he
         simp only [List.map_nil,ksFs,zp3] at hks;subst hks
         refine ⟨true,by simp [Op.eqFields],?_⟩
         have e1:=conf_length h1
         have e2:=conf_length h2
         rw [List.length_eq_zero_iff.1 e1,List.length_eq_zero_iff.1 e2]
         simp
       | cons f L ihL =>
         intro l o ks he hn hks h1 h2 ho1 ho2
         subst he
         simp only [List.map_cons,ksFs] at hks
         split at hks
         ·rename_i hoff
          split at hks
          ·rename_i ks1 hks1
           split at hks
           ·rename_i ks2 hks2
            cases hks
            obtain ⟨a1,a2⟩:=conf_append h1
            obtain ⟨b1,b2⟩:=conf_append h2
            obtain ⟨m2,tde,_,hte,_,hle⟩:=ksOf_size hT hks1
            have hla:=conf_length a1
            have hlb:=conf_length b1
            simp only [List.length_take,List.length_drop] at hla hlb
            obtain ⟨r,hr,hiff⟩:=ih hks1 hte a1 b1 d hmd w
            rw [List.drop_drop] at a2 b2
            obtain ⟨r',hr',hiff'⟩:=ihL _ (o+ks1.length) ks2 rfl (fun f hf=>hn f (by simp [hf])) hks2 a2 b2 (by omega) (by omega)
            simp only [Op.eqFields,hn f (by simp),ne_eq,not_false_eq_true,if_true,Sem.run_bind,hoff,part_ks hT hks1 hte (xs:=xs) (off:=o) (by omega),part_ks hT hks1 hte (xs:=ys) (off:=o) (by omega),Result.andThen_ok,hr]
            have split:xs.drop o=ys.drop o↔((xs.drop o).take ks1.length=(ys.drop o).take ks1.length/\xs.drop (o+ks1.length)=ys.drop (o+ks1.length)):=by
             rw [<-List.drop_drop,<-List.drop_drop]
             constructor
             ·intro e;rw [e];exact ⟨rfl,rfl⟩
             ·rintro ⟨e1,e2⟩
              rw [<-List.take_append_drop ks1.length (xs.drop o),<-List.take_append_drop ks1.length (ys.drop o),e1,e2]
            rw [split]
            cases r
            ·exact ⟨false,by simp,by simp;intro e;exact absurd (hiff.2 e) (by simp)⟩
            ·refine ⟨r',by simpa using hr',?_⟩
             rw [hiff',<-hiff]
             simp
           ·cases hks
          ·cases hks
         ·cases hks
      have:=key fields.toList fs 0 ks hu (fun f hf=>by
       have:=Array.all_eq_true_iff_forall_mem.1 hnames f (Array.mem_toList_iff.1 hf)
       simpa using this) hk (by simpa using hx) (by simpa using hy) (Nat.zero_le _) (Nat.zero_le _)
      simpa using this
     ·
      rename_i k k'
      subst hu
      cases hk
      match xs,ys,hx,hy with
      | [x],[y],hx,hy =>
        simp only [confD,Bool.and_true] at hx hy
        cases x <;> simp [CK.fits] at hx
        cases y <;> simp [CK.fits] at hy
        subst hx hy
        rename_i a b
        refine ⟨a == b,by simp only [mkV,TD.isAgg,Bool.false_eq_true,if_false,D.sval];exact run_equalIn_int w d t _ _ a b hde,by simp⟩
     ·cases hk
      match xs,ys,hx,hy with
      | [x],[y],hx,hy =>
        simp only [confD,Bool.and_true] at hx hy
        cases x <;> simp [CK.fits] at hx
        cases y <;> simp [CK.fits] at hy
        rename_i a b
        refine ⟨a == b,by simp only [mkV,TD.isAgg,Bool.false_eq_true,if_false,D.sval];exact run_equalIn_bool w d t a b hde,by simp⟩
     ·cases hk
      match xs,ys,hx,hy with
      | [x],[y],hx,hy =>
        simp only [confD,Bool.and_true] at hx hy
        cases x <;> simp [CK.fits] at hx
        cases y <;> simp [CK.fits] at hy
        rename_i a b
        refine ⟨a == b,by simp only [mkV,TD.isAgg,Bool.false_eq_true,if_false,D.sval];simp [Op.equalIn,Go.underlying,hde],by simpa using MapKept.bytes_beq a b⟩
theorem checkKey_ks (em:Bool) : ∀ {n:Nat} {t:TypeId} {ks:List CK} {td:TD},ksOf T n t=some ks->T t=some td -> ∀ {xs:List D},confD ks xs=true -> ∀ (d:Nat),n<=d -> ∀ w:World,
  (Instr.checkKey em d t (mkV td.isAgg xs)).run P w = .ok () w:=by
 intro n
 induction n with
 | zero=>intro t ks td h;simp [ksOf] at h
 | succ n ih =>
   intro t ks td h ht xs hx d hd w
   obtain ⟨m,td',e,ht',hk,hl⟩:=ksOf_size hT h
   rw [ht] at ht';cases ht'
   obtain rfl:m=n:=by omega
   cases d with
   | zero=>omega
   | succ d =>
     obtain ⟨de,hde,hu⟩:=hT.under ht
     obtain ⟨de',hde',hek⟩:=hT.eqKnown ht
     rw [hde] at hde';cases hde'
     have hmd:m<=d:=by omega
     have hxl:=conf_length hx
     obtain ⟨sz,u,z⟩:=td
     unfold Instr.checkKey
     simp only [Sem.run_bind,run_underlying hde,Result.andThen_ok]
     cases u <;> cases de <;> simp [uOk] at hu <;> simp only [ksU] at hk <;> (try (cases hk;done))
     ·rename_i m' e' n' e''
      obtain ⟨rfl,rfl⟩:=hu
      split at hk
      ·rename_i ks1 hks1
       cases hk
       obtain ⟨m2,tde,_,hte,_,hle⟩:=ksOf_size hT hks1
       obtain ⟨ie,dde,hie,hdde,hisz,_⟩:=hT.info hte
       have hce:P.cellsOf e'=ks1.length:=by rw [hle];simp [Program.cellsOf,hie,hisz]
       simp only [mkV,TD.isAgg,if_true]
       have hxl':xs.length=m'*ks1.length:=by rw [hxl];simp [List.length_flatten]
       simp only [Std.Legacy.Range.forIn_eq_forIn_range',Std.Legacy.Range.size,Nat.sub_zero,Nat.add_one_sub_one,Nat.div_one]
       have key : ∀ (q j:Nat),j+q=m'->confD (List.replicate q ks1).flatten (xs.drop (j*ks1.length))=true ->
         (forIn (List.range' j q) PUnit.unit fun i _=>do
          Instr.checkKey em d e' (<-part e' (xs.map D.sval).toArray (i*(<-sizeOf e')))
          pure (ForInStep.yield PUnit.unit):Sem PUnit).run P w = .ok () w:=by
        intro q
        induction q with
        | zero=>intro j _ _;simp
        | succ q ihq =>
          intro j hj h1
          simp only [List.replicate_succ,List.flatten_cons] at h1
          obtain ⟨a1,a2⟩:=conf_append h1
          have hjm:j*ks1.length+ks1.length<=m'*ks1.length:=by rw [<-Nat.succ_mul];exact Nat.mul_le_mul_right _ (by omega)
          have hr:=ih hks1 hte a1 d hmd w
          rw [List.drop_drop,<-Nat.succ_mul] at a2
          have:=ihq (j+1) (by omega) a2
          simp only [List.range'_succ,List.forIn_cons,Sem.run_bind,hT.size hte,<-hle,part_ks hT hks1 hte (xs:=xs) (off:=j*ks1.length) (by omega),Result.andThen_ok,hr,Sem.run_pure]
          exact this
       have:=key m' 0 (by omega) (by simpa using hx)
       simpa using this
      ·cases hk
     ·rename_i fs fields
      simp only [eqKnown,zp4,Bool.not_eq_true',decide_eq_true_eq] at hek
      obtain ⟨_,hst,hnames⟩:=hek
      simp only [mkV,TD.isAgg,if_true]
      rw [<-Array.forIn_toList]
      have key : ∀ (L:List Field) (l:List (TypeId×Nat)) (o:Nat) (ks:List CK),L.map (fun f=>(f.type,f.offset))=l->(∀ f∈L,f.name ≠ "_")->ksFs (ksOf T m) o l=some ks ->
        confD ks (xs.drop o)=true->(o<=xs.length) ->
        (forIn L PUnit.unit fun f _=>(if f.name ≠ "_" then do
          Instr.checkKey em d f.type (<-part f.type (xs.map D.sval).toArray f.offset)
          pure (ForInStep.yield PUnit.unit) else pure (ForInStep.yield PUnit.unit)):Sem PUnit).run P w = .ok () w:=by
       intro L
       induction L with
       | nil=>intro l o ks he _ hks h1 _;simp
       | cons f L ihL =>
         intro l o ks he hn hks h1 ho1
         subst he
         simp only [List.map_cons,ksFs] at hks
         split at hks
         ·rename_i hoff
          split at hks
          ·rename_i ks1 hks1
           split at hks
           ·rename_i ks2 hks2
            cases hks
            obtain ⟨a1,a2⟩:=conf_append h1
            obtain ⟨m2,tde,_,hte,_,hle⟩:=ksOf_size hT hks1
            have hla:=conf_length a1
            simp only [List.length_take,List.length_drop] at hla
            have hr:=ih hks1 hte a1 d hmd w
            rw [List.drop_drop] at a2
            have:=ihL _ (o+ks1.length) ks2 rfl (fun f hf=>hn f (by simp [hf])) hks2 a2 (by omega)
            simp only [List.forIn_cons,Sem.run_bind,hn f (by simp),ne_eq,not_false_eq_true,if_true,hoff,part_ks hT hks1 hte (xs:=xs) (off:=o) (by omega),Result.andThen_ok,hr,Sem.run_pure]
            exact this
           ·cases hks
          ·cases hks
         ·cases hks
      have:=key fields.toList fs 0 ks hu (fun f hf=>by
       have:=Array.all_eq_true_iff_forall_mem.1 hnames f (Array.mem_toList_iff.1 hf)
       simpa using this) hk (by simpa using hx) (Nat.zero_le _)
      simpa using this
     all_goals simp
end
open Classical in
theorem mget_mput (es:List (D×D)) (k v k':D):mget (mput es k v) k'=if k=k' then some v else mget es k':=by
 induction es with
 | nil=>simp [mput,mget]
 | cons p r ih =>
   simp only [mput]
   by_cases h:p.1=k
   ·rw [if_pos h];simp only [mget,h]
    by_cases h2:k=k'
    ·rw [if_pos h2,if_pos h2]
    ·rw [if_neg h2,if_neg h2,if_neg h2]
   ·rw [if_neg h];simp only [mget]
    by_cases h2:p.1=k'
    ·rw [if_pos h2]
     have h3 : ¬ k=k':=fun e=>h (h2.trans e.symm)
     rw [if_neg h3,if_pos h2]
    ·rw [if_neg h2,ih,if_neg h2]
theorem keyConf_rep {K:Addr->Option Value} {td:TD} {ks:List CK} {d:D} {v:Value} (h:keyConf td.isAgg ks d=true) (hr:RepD K d v):v=mkV td.isAgg d.cells:=by
 simp only [keyConf,zp4] at h
 obtain ⟨h1,h2⟩:=h
 cases d with
 | agg l =>
   simp only [D.cells] at h1 ⊢
   simp only [mkV,h2,if_true]
   cases hr with | agg _ vs hs hh _ =>
   have:=conf_rep (K:=K) (vs:=vs.toList) h1 (by simpa using hs) (fun i hi=>by simpa [List.getD_eq_getElem?_getD,zp5] using hh i hi)
   congr 1
   apply Array.ext'
   simpa using this
 | _ =>
   simp only [D.cells] at h1 ⊢
   have h2':td.isAgg=false:=by simpa using h2
   simp only [mkV,h2',Bool.false_eq_true,if_false]
   match ks,h1 with
   | [k],h1 =>
     simp only [confD,Bool.and_true] at h1
     exact fits_rep h1 hr
   | [],h1=>simp [confD] at h1
   | _::_::_,h1=>simp [confD] at h1
theorem keyConf_cells {agg:Bool} {ks:List CK} {a b:D} (ha:keyConf agg ks a=true) (hb:keyConf agg ks b=true):a.cells=b.cells↔a=b:=by
 constructor
 ·intro e
  simp only [keyConf,zp4] at ha hb
  cases a <;> cases b <;> simp_all [D.cells]
 ·rintro rfl;rfl
section
variable {P:Program} {T:Types} (hT:TOk P T) {n:Nat} {kt:TypeId} {ks:List CK} {td:TD} (hk:ksOf T n kt=some ks) (htd:T kt=some td) (hn:n<=8)
include hT hk htd hn
theorem equal_ks {a b:D} (ha:keyConf td.isAgg ks a=true) (hb:keyConf td.isAgg ks b=true) (w:World) : ∃ r:Bool,(Op.equal kt (mkV td.isAgg a.cells) (mkV td.isAgg b.cells)).run P w = .ok r w/\(r=true↔a=b):=by
 have ha':=ha
 have hb':=hb
 simp only [keyConf,zp4] at ha' hb'
 obtain ⟨r,h1,h2⟩:=equalIn_ks hT hk htd ha'.1 hb'.1 10000 (by omega) w
 exact ⟨r,h1,h2.trans (keyConf_cells ha hb)⟩
theorem findAsking_ks {K:Addr->Option Value} {k:D} (hkk:keyConf td.isAgg ks k=true) (w:World) : ∀ {es:List (D×D)} {ms:List MapEntry} (i:Nat),EntRep K td.isAgg ks es ms ->
  ((Instr.findAsking kt (mkV td.isAgg k.cells) ms i).run P w = .ok none w/\mget es k=none /\ ∀ v,mput es k v=es++[(k,v)]) \/
  ∃ j e p,(Instr.findAsking kt (mkV td.isAgg k.cells) ms i).run P w = .ok (some (i+j,e.val)) w/\ms[j]?=some e/\es[j]?=some p/\p.1=k/\mget es k=some p.2 /\ ∀ v,mput es k v=es.set j (k,v):=by
 classical
 intro es ms i h
 induction h generalizing i with
 | nil=>exact .inl ⟨by simp [Instr.findAsking],rfl,fun v=>rfl⟩
 | @cons p m es ms hp h ih =>
   obtain ⟨h1,h2,h3⟩:=hp
   obtain ⟨r,hr,hiff⟩:=equal_ks hT hk htd hn hkk h1 w
   by_cases he:p.1=k
   ·have:r=true:=hiff.2 he.symm
    subst this
    refine .inr ⟨0,m,p,by simp [Instr.findAsking,h2,hr],rfl,rfl,he,by simp [mget,he],fun v=>by simp [mput,he]⟩
   ·have:r=false:=by
     cases r
     ·rfl
     ·exact absurd (hiff.1 rfl).symm he
    subst this
    rcases ih (i+1) with ⟨k1,k2,k3⟩ | ⟨j,e,q,k1,k2,k3,k4,k5,k6⟩
    ·exact .inl ⟨by simp [Instr.findAsking,h2,hr,k1],by simp [mget,he,k2],fun v=>by simp [mput,he,k3]⟩
    ·exact .inr ⟨j+1,e,q,by simp [Instr.findAsking,h2,hr,k1];omega,by simpa using k2,by simpa using k3,k4,by simp [mget,he,k5],fun v=>by simp [mput,he,k6]⟩
theorem findKey_ks {K:Addr->Option Value} {k:D} (hkk:keyConf td.isAgg ks k=true) (w:World) {es:List (D×D)} {ms:List MapEntry} (h:EntRep K td.isAgg ks es ms) :
  ((Instr.findKey kt (mkV td.isAgg k.cells) ms).run P w = .ok none w/\mget es k=none /\ ∀ v,mput es k v=es++[(k,v)]) \/
  ∃ j e p,(Instr.findKey kt (mkV td.isAgg k.cells) ms).run P w = .ok (some (j,e.val)) w/\ms[j]?=some e/\es[j]?=some p/\p.1=k/\mget es k=some p.2 /\ ∀ v,mput es k v=es.set j (k,v):=by
 have asking:=findAsking_ks hT hk htd hn hkk w 0 h
 obtain ⟨de,hde,hu⟩:=hT.under htd
 obtain ⟨m,td',e,ht',hku,hl⟩:=ksOf_size hT hk
 rw [htd] at ht';cases ht'

 have now : ∀ (ms:List MapEntry) (es:List (D×D)) (i:Nat) (r:Option (Nat×Value)),EntRep K td.isAgg ks es ms->Instr.findNow de (mkV td.isAgg k.cells) ms i=some r->(Instr.findAsking kt (mkV td.isAgg k.cells) ms i).run P w = .ok r w:=by
  intro ms es i r h
  induction h generalizing i with
  | nil=>intro hf;simp [Instr.findNow] at hf;subst hf;simp [Instr.findAsking]
  | @cons p m0 es ms hp h ih =>
    obtain ⟨h1,h2,h3⟩:=hp
    obtain ⟨r0,hr,hiff⟩:=equal_ks hT hk htd hn hkk h1 w
    intro hf
    simp only [Instr.findNow] at hf
    have hsame : ∀ b,Instr.sameNow de (mkV td.isAgg k.cells) m0.key=some b->r0=b:=by
     intro b hb
     rw [h2] at hb
     have heq:(Op.equal kt (mkV td.isAgg k.cells) (mkV td.isAgg p.1.cells)).run P w = .ok b w:=by
      unfold Instr.sameNow at hb
      split at hb
      ·rename_i k1 a k2 b' e1 e2
       split at hb
       ·rename_i hkk'
        cases hb
        rw [e1,e2,hkk']
        exact run_equalIn_int w 9999 kt _ _ _ _ hde
       ·cases hb
      ·rename_i a b' e1 e2
       cases hb
       rw [e1,e2]
       exact run_equalIn_str w 9999 kt _ _ hde
      ·rename_i a b' e1 e2
       cases hb
       rw [e1,e2]
       exact run_equalIn_bool w 9999 kt _ _ hde
      ·cases hb
     rw [hr] at heq
     injection heq
    cases hsn:Instr.sameNow de (mkV td.isAgg k.cells) m0.key with
    | none=>rw [hsn] at hf;cases hf
    | some b =>
      have:=hsame b hsn
      subst this
      rw [hsn] at hf
      cases r0 with
      | true=>simp at hf;subst hf;simp [Instr.findAsking,h2,hr]
      | false=>simp at hf;simp [Instr.findAsking,h2,hr,ih (i+1) hf]
 have hsame:(Instr.findKey kt (mkV td.isAgg k.cells) ms).run P w=(Instr.findAsking kt (mkV td.isAgg k.cells) ms 0).run P w:=by
  unfold Instr.findKey
  simp only [Sem.run_bind,run_underlying hde,Result.andThen_ok]
  split
  ·rename_i r hr
   rw [now ms es 0 r h hr];simp
  ·rfl
 rw [hsame]
 simpa using asking
end
end Go.Am
