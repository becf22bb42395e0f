import Derived.Test.YtlljehkmemajkaaGreatAmStore
import Derived.Laws.StructEq
import Derived.ChangeKeysEq
import Derived.DeepKeys3
import Derived.MapKept
import Derived.Laws.MakeOwn
import Derived.Laws.Cover3
set_option linter.unusedSimpArgs false
set_option linter.unusedSectionVars false
namespace Go.Am
open Go
theorem a7a (off:Nat) : ∀ (l:List Value) (k:Nat) (cells:Array Value),off+k+l.length<=cells.size ->
  ((l.zipIdx k).foldl (fun cs p=>cs.setIfInBounds (off+p.2) p.1) cells).size=cells.size /\
    ∀ j,((l.zipIdx k).foldl (fun cs p=>cs.setIfInBounds (off+p.2) p.1) cells).getD j Go.undef=if off+k<=j/\j<off+k+l.length then l.getD (j-(off+k)) Go.undef else cells.getD j Go.undef
 | [],k,cells,_=>by refine ⟨rfl,fun j => ?_⟩;simp;omega
 | v::r,k,cells,h=>by
   simp at h;have hsz:(cells.setIfInBounds (off+k) v).size=cells.size:=by simp
   obtain ⟨h1,h2⟩:=a7a off r (k+1) (cells.setIfInBounds (off+k) v) (by rw [hsz];omega);simp only [List.zipIdx_cons,List.foldl_cons];refine ⟨h1.trans hsz,fun j => ?_⟩;rw [h2 j,a1q _ _ _ _ (by omega)];simp only [List.length_cons];by_cases hj:off+k=j
   ·subst hj;rw [if_neg (by omega),if_pos rfl,if_pos (by omega)];simp
   by_cases hj2:off+(k+1)<=j/\j<off+(k+1)+r.length
   ·rw [if_pos hj2,if_pos (by omega)];rw [show j-(off+k)=(j-(off+(k+1)))+1 by omega];simp [List.getD]
   rw [if_neg hj2,if_neg hj,if_neg (by omega)]
section
variable {P:Program} {T:a0i} (hT:TOk P T) {σ:St} {g:Nat->AV} {o:Oper} {ss:a1C} {h':Option (List Obj)} {H:List Obj} {an:Ann}
 (hg:Less g σ) (hgd : ∀ d,o.dst=some d->g d=σ.get d) (h:a0E Ar.std T an σ.n g H o=some (ss,h'))
include hT hg hgd h
omit hT hgd h in
theorem b2X {G:Gh} {a:Act} {w:World} (R:Rel G σ a w) {t:TypeId} {place:Nat->Option (Nat×Nat)} (hp : ∀ i ft off sz,partOf T t i=some (ft,off,sz)->place i=some (off,sz)) :
  ∀ (parts:List (Nat×Operand)) (cs cs':List AV) (cells:Array Value),a8c T g t parts cs=some cs'->cells.size=cs.length ->
    (∀ (j:Nat) (hj:j<cs.length) (ℓ:Loc),RepV G w ℓ cs[j] (cells.getD j Go.undef))->(∀ c∈cs,c.isCell=true) ->
    ∃ cells',Instr.fill place cells (parts.map fun p=>(p.1,a.eval p.2))=some cells'/\cells'.size=cs'.length /\
      (∀ (j:Nat) (hj:j<cs'.length) (ℓ:Loc),RepV G w ℓ cs'[j] (cells'.getD j Go.undef)) /\ ∀ c∈cs',c.isCell=true
 | [],cs,cs',cells,hf,hs,hr,hc=>by simp [a8c] at hf;subst hf;exact ⟨cells,rfl,hs,hr,hc⟩
 | (i,x)::r,cs,cs',cells,hf,hs,hr,hc=>by
   unfold a8c at hf;split at hf
   ·rename_i ft off sz hpart;split at hf
    ·rename_i v hv;split at hf
     ·rename_i hcond;obtain ⟨hlen,hoff,hcell⟩:=hcond;simp at hcell;have hv':=fun ℓ=>a0Y hg R hv ℓ;obtain ⟨e1,e2⟩:=a1Y (fun ℓ=>(hv' ℓ).1) (hv' .no).2 hcell;obtain ⟨f1,f2⟩:=a7a off (a.eval x).cells.toList 0 cells (by simp;omega);have hl:(a0Q cs off v.cells).length=cs.length:=a2d _ _ _ (by omega);obtain ⟨cells',k1,k2,k3,k4⟩:=b2X R hp r _ cs' (((a.eval x).cells.toList.zipIdx 0).foldl (fun cs p=>cs.setIfInBounds (off+p.2) p.1) cells) hf (by rw [f1,hl,hs]) (fun j hj ℓ=>by
       rw [f2 j];have e:=a2N cs v.cells off j (by omega);have hj':j<cs.length:=by omega
       have e3:(a0Q cs off v.cells)[j]?=some (a0Q cs off v.cells)[j]:=zp1 hj;rw [show (a0Q cs off v.cells)[j]?=_ from e] at e3;simp only [Nat.add_zero,Array.length_toList];by_cases h1:j<off
       ·rw [if_pos h1,zp1 hj'] at e3;injection e3 with e3
        rw [<-e3,if_neg (by omega)];exact hr j hj' ℓ
       ·rw [if_neg h1] at e3;by_cases h2:j<off+v.cells.length
        ·rw [if_pos h2,zp1 (by omega)] at e3;injection e3 with e3
         rw [<-e3,if_pos (by omega)];have:=e2 (j-off) (by omega) ℓ;simpa [List.getD,zp5] using this
        rw [if_neg h2,zp1 hj'] at e3;injection e3 with e3
        rw [<-e3,if_neg (by omega)];exact hr j hj' ℓ)
       (by
        intro c hcm;unfold a0Q at hcm;rcases List.mem_append.1 hcm with hcm | hcm
        ·rcases List.mem_append.1 hcm with hcm | hcm
         ·exact hc c (List.mem_of_mem_take hcm)
         exact hcell c hcm
        exact hc c (List.mem_of_mem_drop hcm))
      refine ⟨cells',?_,k2,k3,k4⟩;simp only [List.map_cons,Instr.fill,hp i ft off sz hpart];rw [if_neg (by simp;omega)];rw [<-k1];congr 1;rw [<-Array.foldl_toList,Array.toList_zipIdx]
     simp at hf
    simp at hf
   simp at hf
omit hT hg hgd h in
theorem b5k {G:Gh} {w:World} (hs:Sane G) {cs:List AV} {vs:Array Value} (h1:vs.size=cs.length) (h2 : ∀ (j:Nat) (hj:j<cs.length) (ℓ:Loc),RepV G w ℓ cs[j] (vs.getD j Go.undef)) (h3 : ∀ c∈cs,c.isCell=true) (ℓ:Loc) :
  RepV G w ℓ (b7P cs) (.agg vs):=by
 have key : ∀ (c:AV) (v:Value),(∀ ℓ,RepV G w ℓ c v)->RepV G w .no c.nilLim v:=by
  intro c v hc;unfold AV.nilLim;split
  ·cases hc .no with | own _ _ _ _ h ht =>
   refine .lim _ _ _ _ h fun a n cap hv => ?_;subst hv;rcases Nat.eq_zero_or_pos cap with h0 | h0
   ·generalize hv':Value.slice a n cap=v at h;cases h with
    | nil=>injection hv' with _ h2 h3;omega
    | none0=>injection hv' with _ h2 h3;omega
    | list _ _ b off cap' vs=>injection hv' with _ h2 h3;simp at h2;omega
   cases a with
   | none=>generalize hv':Value.slice none n cap=v at h;cases h with | nil=>injection hv' with _ h2 h3;omega | none0=>cases hv' | list=>cases hv'
   | some a =>
     obtain ⟨f,c,e,hO,_⟩:=ht a n cap rfl h0;exact absurd rfl (hs.no _ _ _ hO)
  exact (hc .no).copy .no
 refine .agg _ _ _ (by simpa using h1) (fun i hi => ?_) (fun c hc => ?_) (fun c hc => ?_)
 ·rw [List.getElem_map];exact key _ _ (h2 i (by simpa using hi))
 ·obtain ⟨c',h4,rfl⟩:=List.mem_map.1 hc;unfold AV.nilLim;split
  ·rfl
  exact AV.copy_isCell (h3 _ h4)
 obtain ⟨c',h4,rfl⟩:=List.mem_map.1 hc;unfold AV.nilLim;split
 ·rfl
 exact AV.frl_of (AV.copy_free _)
theorem b1T {t:TypeId} {parts:Array (Nat×Operand)} (hop:o.op = .build t parts):a0f P σ o ss h':=by
 simp only [a0E,hop] at h;split at h
 ·rename_i td ht;split at h
  ·rename_i hcond;simp at hcond;obtain ⟨hagg,hknown⟩:=hcond;obtain ⟨av,hav,hp⟩:=a1o h;simp at hav;obtain ⟨cs',hfill,rfl⟩:=hav;have hmk2:mkB an o.dst=b7P\/mkB an o.dst=a5w:=by
    unfold mkB;split
    ·split
     ·exact .inl rfl
     exact .inr rfl
    exact .inr rfl
   generalize mkB an o.dst=mk at hp hmk2;have hfree : ∀ l,(mk l).free=true:=by
    intro l;rcases hmk2 with rfl | rfl
    ·rfl
    unfold a5w;split <;> rfl
   refine a0c hgd hp (by simp [hop]) (AV.free_place (AV.free_isLocal (hfree _))) ?_;intro G a w R;obtain ⟨i,dd,hi,hdd,hsz,_,huok,z,hz,hzs,hzl,hzc⟩:=hT.info ht;have key : ∀ (place:Nat->Option (Nat×Nat)),(∀ i ft off sz,partOf T t i=some (ft,off,sz)->place i=some (off,sz)) ->
     (∀ cells,Instr.fill place z.cells (parts.map fun p=>(p.1,a.eval p.2)).toList=some cells->P.built t (parts.map fun p=>(p.1,a.eval p.2)).toList=some cells) ->
     ∃ val,(execOp a.eval o).run P w = .ok (.value val) w /\ ∀ d,RepV G w (.s d) (mk cs') val:=by
    intro place hpl hb;obtain ⟨cells',k1,k2,k3,k4⟩:=b2X hg R hpl parts.toList td.zero cs' z.cells hfill (by omega) (fun j hj ℓ=>(a1v (hzc j hj)).1 G w ℓ)
     (fun c hcm=>by obtain ⟨j,hj,rfl⟩:=List.mem_iff_getElem.1 hcm;exact (a1v (hzc j hj)).2.1)
    have hbuilt:=hb cells' (by simpa using k1);refine ⟨.agg cells',?_,fun d => ?_⟩
    rotate_left
    ·rcases hmk2 with rfl | rfl
     ·exact b5k R.h.sane k2 k3 k4 _
     exact (a6Y k2 (fun i hi=>⟨.no,k3 i hi .no⟩) k4 _).1
    have:=run_build (P:=P) w t _ cells' hbuilt;simp [execOp,hop,this]
   cases td with | mk sz u zero =>
   cases u with
   | array m e =>
     have hu:=hT.array ht;simp [a4w] at hknown;obtain ⟨tde,hte⟩:=Option.isSome_iff_exists.1 hknown;obtain ⟨ie,_,hie,_,hse,_⟩:=hT.info hte;refine key (fun i=>some (i*ie.size,ie.size)) ?_ (fun cells hc=>by simp only [Program.built,hi,hu,hz,hie];exact hc);intro i ft off sz hpart;simp only [partOf,ht] at hpart;split at hpart
     ·simp [hte] at hpart;obtain ⟨rfl,rfl,rfl⟩:=hpart;simp [hse]
     simp at hpart
   | struct fs =>
     obtain ⟨fields,hu,hmap⟩:=hT.struct ht;simp [a4w] at hknown;have hplaces : ∃ places,fields.toList.mapM (fun f=>(P.info? f.type).map fun i=>(f.offset,i.size))=some places /\
       ∀ i ft off sz,partOf T t i=some (ft,off,sz)->places[i]?=some (off,sz):=by
      have gen : ∀ (fl:List Field) ,(∀ f∈fl,∃ td,T f.type=some td) -> ∃ places,fl.mapM (fun f=>(P.info? f.type).map fun i=>(f.offset,i.size))=some places /\
        ∀ (i:Nat) (f:Field) (td:TD),fl[i]?=some f->T f.type=some td->places[i]?=some (f.offset,td.size):=by
       intro fl
       induction fl with
       | nil=>intro _;exact ⟨[],rfl,fun i f td h=>by simp at h⟩
       | cons f r ih =>
         intro hk;obtain ⟨pl,h1,h2⟩:=ih (fun f' hf'=>hk f' (by simp [hf']));obtain ⟨tdf,htf⟩:=hk f (by simp);obtain ⟨inf,_,hinf,_,hsf,_⟩:=hT.info htf;refine ⟨(f.offset,inf.size)::pl,by simp [List.mapM_cons,hinf,h1],fun i f' td hf' htd => ?_⟩;cases i with
         | zero=>simp at hf';subst hf';rw [htf] at htd;injection htd with htd;subst htd;simp [hsf]
         | succ i=>simpa using h2 i f' td (by simpa using hf') htd
      obtain ⟨pl,h1,h2⟩:=gen fields.toList (fun f hf=>by
       have:=hknown f.type f.offset (by rw [<-hmap];exact List.mem_map.2 ⟨f,hf,rfl⟩);exact Option.isSome_iff_exists.1 this)
      refine ⟨pl,h1,fun i ft off sz hpart => ?_⟩;simp only [partOf,ht] at hpart;split at hpart
      ·rename_i ft' off' hfi;rw [<-hmap] at hfi;simp at hfi;obtain ⟨f,hf1,hf2,hf3⟩:=hfi;simp at hpart;obtain ⟨tdf,htf,rfl,rfl,rfl⟩:=hpart;subst hf2 hf3;exact h2 i f tdf (by simpa using hf1) htf
      simp at hpart
     obtain ⟨places,hp1,hp2⟩:=hplaces;refine key (places.toArray[·]?) (fun i ft off sz hh=>by simpa using hp2 i ft off sz hh) (fun cells hc=>by
      simp only [Program.built,hi,hu,hz,hp1];exact hc)
   | meth ms =>
     obtain ⟨d,hd,hu⟩:=hT.under ht;cases d <;> simp [uOk] at hu;subst hu;have hp1:(#[]:Array Field).toList.mapM (fun f=>(P.info? f.type).map fun i=>(f.offset,i.size))=some []:=rfl;refine key (([]:List (Nat×Nat)).toArray[·]?) (fun i ft off sz hh=>by simp [partOf,ht] at hh) (fun cells hc=>by
      simp only [Program.built,hi,hd,hz,hp1];exact hc)
   | _=>simp [TD.isAgg] at hagg
  simp at h
 simp at h
omit hT hgd h in
theorem a7b {G:Gh} {a:Act} {w:World} (R:Rel G σ a w) {e:TypeId} {sz:Nat} : ∀ (parts:List (Nat×Operand)) (i:Nat) (l:List D),a3q Ar.std T g e sz parts i=some l ->
  l.length=parts.length/\a0k sz l /\ ∀ (j:Nat) (hj:j<parts.length) (hj':j<l.length),parts[j].1=i+j/\RepD G.K l[j] (a.eval parts[j].2)
 | [],i,l,hl=>by simp [a3q] at hl;subst hl;exact ⟨rfl,fun x hx=>by simp at hx,fun j hj=>by simp at hj⟩
 | (q,x)::r,i,l,hl=>by
   unfold a3q at hl;split at hl
   ·rename_i v hv;split at hl
    ·rename_i y l' hd hr;split at hl
     ·rename_i hc;simp at hl;subst hl;obtain ⟨h1,h2,h3⟩:=a7b R r (i+1) l' hr;refine ⟨by simp [h1],?_,fun j hj hj' => ?_⟩
      ·intro z hz;rcases List.mem_cons.1 hz with rfl | hz
       ·exact b2K hc.2
       exact h2 z hz
      cases j with
      | zero =>
        refine ⟨by simp [hc.1],?_⟩;obtain ⟨_,e2⟩:=a1w hd;simpa using e2 0 (by simp) (by simp) G w .no _ (a0Y hg R hv .no).1
      | succ j =>
        obtain ⟨e1,e2⟩:=h3 j (by simpa using hj) (by simpa using hj');exact ⟨by simp;omega,by simpa using e2⟩
     simp at hl
    simp at hl
   simp at hl
omit hT hg hgd h in
theorem RepD.cells {K:Addr->Option Value} {x:D} {v:Value} (h:RepD K x v):v.cells.size=x.cells.length/\(∀ (i:Nat) (hi:i<x.cells.length),RepD K x.cells[i] (v.cells.getD i Go.undef)) /\
  ∀ i,i<x.cells.length->(v.cells.getD i Go.undef).oneCell'=true:=by
 have one : ∀ {x:D} {v:Value},RepD K x v->x.cells=[x]->v.cells = #[v]->v.oneCell'=true->v.cells.size=x.cells.length/\(∀ (i:Nat) (hi:i<x.cells.length),RepD K x.cells[i] (v.cells.getD i Go.undef)) /\
   ∀ i,i<x.cells.length->(v.cells.getD i Go.undef).oneCell'=true:=by
  intro x v h h1 h2 h3;refine ⟨by rw [h1,h2];rfl,fun i hi => ?_,fun i hi => ?_⟩
  ·have:i=0:=by rw [h1] at hi;simpa using hi
   subst this;simpa [h1,h2] using h
  have:i=0:=by rw [h1] at hi;simpa using hi
  subst this;simpa [h2] using h3
 cases h with
 | agg cs vs hs h h1 =>
   refine ⟨by simpa [Value.cells,D.cells] using hs,fun i hi=>h i hi,fun i hi => ?_⟩;have hi':i<vs.size:=by simp [D.cells] at hi;omega
   simpa [Value.cells,Array.getD,hi'] using h1 vs[i] (Array.getElem_mem hi')
 | bool b=>exact one (.bool b) rfl rfl rfl
 | int k n=>exact one (.int k n) rfl rfl rfl
 | str s=>exact one (.str s) rfl rfl rfl
 | iface z=>exact one (.iface z) rfl (by unfold a1N;split <;> rfl) (by unfold a1N;split <;> rfl)
 | ref cs b off vs hK h1 h=>exact one (.ref cs b off vs hK h1 h) rfl rfl rfl
 | nil k=>exact one (.nil k) rfl rfl rfl
 | none0 k a=>exact one (.none0 k a) rfl rfl rfl
 | list k l b off cap vs hu hc hK h1 h=>exact one (.list k l b off cap vs hu hc hK h1 h) rfl rfl rfl
end
def cellsOf (vs:List Value):List Value:=vs.flatMap fun v=>v.cells.toList
theorem a3P {k:Nat} : ∀ {vs:List Value},(∀ v∈vs,v.cells.size=k)->(cellsOf vs).length=vs.length*k
 | [],_=>by simp [cellsOf]
 | v::r,h=>by
   have ih:=a3P (vs:=r) (fun x hx=>h x (by simp [hx]));have hv:=h v (by simp);simp only [cellsOf,List.flatMap_cons,List.length_append,Array.length_toList,List.length_cons] at ih ⊢;rw [ih,hv,Nat.add_mul];omega
theorem a5C {k:Nat} : ∀ {vs:List Value},(∀ v∈vs,v.cells.size=k) -> ∀ {i:Nat} {v:Value},vs[i]?=some v -> ∀ j,j<k->(cellsOf vs)[i*k+j]?=v.cells[j]?
 | [],_,i,v,h,_,_=>by simp at h
 | x::r,hu,0,v,h,j,hj=>by
   simp at h;subst h;have hx:x.cells.size=k:=hu _ (by simp);simp only [cellsOf,List.flatMap_cons,Nat.zero_mul,Nat.zero_add];rw [zp7 (by simp;omega)];simp
 | x::r,hu,i+1,v,h,j,hj=>by
   have hx:x.cells.size=k:=hu _ (by simp);have ih:=a5C (vs:=r) (fun z hz=>hu z (by simp [hz])) (i:=i) (v:=v) (by simpa using h) j hj;simp only [cellsOf,List.flatMap_cons] at ih ⊢;rw [zp8 (by simp [Nat.add_mul];omega),<-ih];congr 1;simp [Nat.add_mul];omega
theorem b0l {K:Addr->Option Value} {k:Nat} (hk:0<k) {l:List D} {vs:List Value} (hlen:l.length=vs.length) (hu:a0k k l)
  (h : ∀ (j:Nat) (hj:j<l.length) (hj':j<vs.length),RepD K l[j] vs[j]) :
  (cellsOf vs).length=(D.flat l).length /\ ∀ (q:Nat) (hq:q<(D.flat l).length),RepD K (D.flat l)[q] ((cellsOf vs).getD q Go.undef)/\((cellsOf vs).getD q Go.undef).oneCell'=true:=by
 have hvu : ∀ v∈vs,v.cells.size=k:=by
  intro v hv;obtain ⟨j,hj,rfl⟩:=List.mem_iff_getElem.1 hv;have:=(h j (by omega) hj).cells.1;rw [this];exact hu _ (zp6 _)
 refine ⟨by rw [a3P hvu,a0b hu,hlen],fun q hq => ?_⟩;rw [a0b hu] at hq;have hi:q / k<l.length:=Nat.div_lt_of_lt_mul (by rw [Nat.mul_comm];exact hq);have hj:q%k<k:=Nat.mod_lt _ hk;have e:=Nat.div_add_mod q k;have hq':q / k*k+q%k=q:=by rw [Nat.mul_comm];exact e
 have c1:=a0H hu (i:=q / k) (y:=l[q / k]) (zp1 hi) (q%k) hj;have c2:=a5C hvu (i:=q / k) (v:=vs[q / k]'(by omega)) (zp1 (by omega)) (q%k) hj;rw [hq'] at c1 c2;obtain ⟨r1,r2,r3⟩:=(h (q / k) hi (by omega)).cells;have hyk:l[q / k].cells.length=k:=hu _ (zp6 _);rw [zp1 (by omega:q%k<l[q / k].cells.length)] at c1;obtain ⟨c3,c4⟩:=zp2.1 c1;have c5:(cellsOf vs).getD q Go.undef=(vs[q / k]'(by omega)).cells.getD (q%k) Go.undef:=by
  simp only [List.getD_eq_getElem?_getD,c2,zp5]
 rw [c5,c4];exact ⟨r2 _ (by omega),r3 _ (by omega)⟩
def Gh.keep (G:Gh) (b lo hi:Nat) (c:Nat->Value):Gh :=
 { G with K:=fun x=>if x.block=b/\x.spot=none/\lo<=x.off/\x.off<hi then some (c x.off) else G.K x }
theorem Rel.newList {G:Gh} {σ:St} {a:Act} {w w1:World} (R:Rel G σ a w) (hw1:w1.heap=w.heap) (hos:w1.os=w.os) (hout:w1.output=w.output) (htp:w1.tape=w.tape) (hdr:w.drawn<=w1.drawn) {d k cap:Nat} {l:List D} {vs:Array Value} (e:TypeId) (hlt:d<σ.n) (hbox:(σ.get d).isBox=false)
  (hu:a0k k l) (hcap:l.length<=cap) (hsz:cap*k<=vs.size) (hv : ∀ (q:Nat) (hq:q<(D.flat l).length),RepD G.K (D.flat l)[q] (vs.getD q Go.undef)/\(vs.getD q Go.undef).oneCell'=true) :
  ∃ G',Rel G' (σ.upd [(d,.own k l)] none) (a.put (some d) (.slice (some ⟨w.heap.size,0,none⟩) l.length cap)) (w1.alloc (.cells vs e)) /\ ∀ m,Ext m G w G' (w1.alloc (.cells vs e)):=by
 have hfl:=a0b hu;have hle:l.length*k<=vs.size:=Nat.le_trans (Nat.mul_le_mul_right k hcap) hsz;let G':Gh:=(G.own w.heap.size (.s d) (l.length*k)).keep w.heap.size 0 (l.length*k) (fun q=>vs.getD q Go.undef);have hsize:w1.heap.size=w.heap.size:=by rw [hw1]
 have hOold : ∀ b x f,G.O b=some (x,f)->G'.O b=some (x,f):=by
  intro b x f h;have:=(R.h.disj b x f h).1;simp [G',Gh.own,Gh.keep,Nat.ne_of_lt this,h]
 have hold : ∀ b,b<w.heap.size->(w1.alloc (.cells vs e)).heap[b]?=w.heap[b]?:=by
  intro b hb;rw [a0o (by rw [hsize];exact hb),hw1]
 have hnew:(w1.alloc (.cells vs e)).heap[w.heap.size]?=some (.cells vs e (0,0)):=by
  have:=heap_alloc_new (w:=w1) (o := .cells vs e)
  rwa [hsize] at this
 have hKle:KLe G.K G'.K:=by
  intro x v h;have hb:=World.block_lt_of_cell? w _ (R.h.kept x v h);simp only [G',Gh.keep,Gh.own];rw [if_neg (by intro hc;omega)];exact h
 have hpr:Pres G G' w (w1.alloc (.cells vs e)) (fun _=>True) :=
  ⟨hKle,fun b x f _ h=>⟨hOold b x f h,hold b (R.h.disj b x f h).1⟩,fun _ _=>rfl,Nat.le_refl _⟩
 have hKnew : ∀ q,q<l.length*k->G'.K ⟨w.heap.size,q,none⟩=some (vs.getD q Go.undef):=by
  intro q hq;simp [G',Gh.keep,hq]
 have hd':d<a.tmps.size:=by rw [R.size];exact hlt
 refine ⟨G',⟨⟨⟨fun b x f h => ?_⟩,R.h.nh,fun i ob hob => ?_,fun x v h => ?_,fun b x f h => ?_⟩,by simpa [Act.put,St.upd] using R.size,?_,?_,?_⟩,fun m=>⟨hKle,fun x v h => ?_,fun b hb h=>⟨hold b hb,?_⟩,?_,fun _ _=>rfl,hos,hout,(fun a _=>(frozen?_alloc_new _ _ (fun _ _ _ e=>by cases e;rfl) a).trans (by unfold World.frozen?;rw [hw1])),htp,hdr⟩⟩
 ·simp only [G',Gh.own,Gh.keep] at h;split at h
  ·simp at h;rw [<-h.1];simp [Loc.root]
  exact R.h.sane.no b x f h
 ·exact (R.h.objs i ob hob).pres R.h.sane (by rw [<-R.h.nh];exact (zp2.1 hob).1) hpr trivial (fun _=>trivial)
 ·simp only [G',Gh.keep,Gh.own] at h;split at h
  ·rename_i hc;obtain ⟨hb,hsp,_,hq⟩:=hc;obtain ⟨xb,xo,xs⟩:=x;simp at hb hsp hq h;subst hb hsp;rw [a0V hnew (by omega)];simpa using h
  have:=R.h.kept x v h;have hb:=World.block_lt_of_cell? w _ this;unfold World.cell? at *
  rwa [hold _ hb]
 ·simp only [G',Gh.own,Gh.keep] at h;split at h
  ·rename_i hbe;subst hbe;simp at h;obtain ⟨_,rfl⟩:=h;refine ⟨by simp [hsize],fun j hj => ?_⟩;simp only [G',Gh.keep,Gh.own];rw [if_neg (by intro hc;omega)];cases hK:G.K ⟨w.heap.size,j,none⟩ with
   | none=>rfl
   | some v=>exact absurd (World.block_lt_of_cell? w _ (R.h.kept _ _ hK)) (by simp)
  rename_i hbe;have:=R.h.disj b x f h;refine ⟨by simp [hsize];omega,fun j hj => ?_⟩;simp only [G',Gh.keep,Gh.own];rw [if_neg (by intro hc;exact hbe hc.1)];exact this.2 j hj
 ·intro t;simp only [Act.put,a1q _ _ _ _ hd',St.upd,St.get,a0r,List.foldl_cons,List.foldl_nil,a0d];split
  ·rename_i e';subst e';refine .own _ _ _ _ ?_ ?_
   ·refine .list k l w.heap.size 0 cap (fun q=>vs.getD q Go.undef) hu hcap (fun j hj => ?_) (fun j hj=>(hv j hj).2) (fun j hj=>(hv j hj).1.mono hKle);rw [Nat.zero_add];exact hKnew j (by omega)
   intro a' n cap' hv' _;simp at hv';obtain ⟨rfl,rfl,rfl⟩:=hv';exact ⟨l.length*k,vs,e,by simp [G',Gh.own,Gh.keep],by simp,hnew,by simpa using hsz,rfl⟩
  exact (R.slots t).pres R.h.sane hpr trivial (fun r' off' e'=>rfl) (fun t' e' hbx=>⟨rfl,fun _=>trivial⟩)
 ·intro t r'' off' ht;simp only [St.upd,St.get,a0r,List.foldl_cons,List.foldl_nil,a0d] at ht ⊢;split at ht
  ·cases ht
  obtain ⟨cs',hcs'⟩:=R.places t r'' off' ht;split
  ·rename_i e;subst e;rw [show σ.get d=_ from hcs'] at hbox;simp [AV.isBox] at hbox
  exact ⟨cs',hcs'⟩
 ·refine ⟨R.df.1,fun x hx => ?_⟩;obtain ⟨r0,h1,h2,h3⟩:=R.df.2 x hx;exact ⟨r0,h1,hOold _ _ _ h2,by rw [hold _ (R.h.disj _ _ _ h2).1];exact h3⟩
 ·simp only [G',Gh.keep,Gh.own] at h;split at h
  ·rename_i hc;exact .inr (.inr (by omega))
  exact .inl h
 ·simp [G',Gh.own,Gh.keep,Nat.ne_of_lt hb,h]
 simp [hsize]
theorem Rel.demote {G:Gh} {σ:St} {a:Act} {w:World} (R:Rel G σ a w) {s k:Nat} {l:List D} (hs:σ.get s = .own k l\/σ.get s = .lim k l\/σ.get s = .tail k l):Rel G (σ.upd [(s,.d (.list k l))] none) a w:=by
 have hrep:=R.slots s;generalize hv:a.tmps.getD s Go.undef=v at hrep;have hr:RepD G.K (.list k l) v:=by
  rcases hs with hs | hs | hs <;> rw [hs] at hrep <;> cases hrep <;> assumption
 refine ⟨R.h,by simpa [St.upd] using R.size,?_,?_,R.df⟩
 ·intro t;simp only [St.upd,St.get,a0r,List.foldl_cons,List.foldl_nil,a0d];split
  ·rename_i e;subst e;rw [hv];exact .d _ _ _ hr
  exact R.slots t
 intro t r' off ht;simp only [St.upd,St.get,a0r,List.foldl_cons,List.foldl_nil,a0d] at ht ⊢;split at ht
 ·cases ht
 obtain ⟨cs,hcs⟩:=R.places t r' off ht;refine ⟨cs,?_⟩;split
 ·rename_i e;subst e;rw [hcs] at hs;rcases hs with hs | hs | hs <;> cases hs
 exact hcs
theorem Rel.toLim {G:Gh} {σ:St} {a:Act} {w:World} (R:Rel G σ a w) {s k:Nat} {l:List D} (hs:σ.get s = .own k l) (hv : ∀ b n cap,a.tmps.getD s Go.undef = .slice b n cap->n=cap):Rel G (σ.upd [(s,.lim k l)] none) a w:=by
 have hrep:=R.slots s;have hr:RepD G.K (.list k l) (a.tmps.getD s Go.undef):=by
  rw [hs] at hrep;cases hrep;assumption
 refine ⟨R.h,by simpa [St.upd] using R.size,?_,?_,R.df⟩
 ·intro t;simp only [St.upd,St.get,a0r,List.foldl_cons,List.foldl_nil,a0d];split
  ·rename_i e;subst e;exact .lim _ _ _ _ hr hv
  exact R.slots t
 intro t r' off ht;simp only [St.upd,St.get,a0r,List.foldl_cons,List.foldl_nil,a0d] at ht ⊢;split at ht
 ·cases ht
 obtain ⟨cs,hcs⟩:=R.places t r' off ht;refine ⟨cs,?_⟩;split
 ·rename_i e;subst e;rw [hcs] at hs;cases hs
 exact hcs
theorem Rel.loosen {G:Gh} {σ:St} {a:Act} {w:World} (R:Rel G σ a w) {s k:Nat} {l:List D} {z:Bool} (hs:σ.get s = .own k l):Rel G (σ.upd [(s,.ownZ z k l)] none) a w:=by
 have hrep:=R.slots s;have hr:RepV G w (.s s) (.ownZ z k l) (a.tmps.getD s Go.undef):=by
  rw [hs,show AV.own k l = .ownZ true k l from rfl,a1O] at hrep;cases z with
  | true=>exact a1O.2 hrep
  | false=>exact a1O.2 ⟨hrep.1,hrep.2.weak⟩
 refine ⟨R.h,by simpa [St.upd] using R.size,?_,?_,R.df⟩
 ·intro t;simp only [St.upd,St.get,a0r,List.foldl_cons,List.foldl_nil,a0d];split
  ·rename_i e;subst e;exact hr
  exact R.slots t
 intro t r' off ht;simp only [St.upd,St.get,a0r,List.foldl_cons,List.foldl_nil,a0d] at ht ⊢;split at ht
 ·exact absurd ht (by cases z <;> simp [AV.ownZ])
 obtain ⟨cs,hcs⟩:=R.places t r' off ht;refine ⟨cs,?_⟩;split
 ·rename_i e;subst e;rw [hcs] at hs;cases hs
 exact hcs
theorem a9o {k:Nat} : ∀ (ps:List (Nat×Value)) (i:Nat) (cells:Array Value),(∀ (j:Nat) (hj:j<ps.length),ps[j].1=i+j)->(∀ p∈ps,p.2.cells.size=k)->(i+ps.length)*k<=cells.size ->
  ∃ cells',Instr.fill (fun i=>some (i*k,k)) cells ps=some cells'/\cells'.size=cells.size /\
    ∀ q,cells'.getD q Go.undef=if i*k<=q/\q<(i+ps.length)*k then (cellsOf (ps.map (·.2))).getD (q-i*k) Go.undef else cells.getD q Go.undef
 | [],i,cells,_,_,_=>⟨cells,rfl,rfl,fun q=>by simp;omega⟩
 | (i',v)::r,i,cells,h1,h2,h3=>by
   have hi:i'=i:=h1 0 (by simp);subst hi;have hv:v.cells.size=k:=h2 (i',v) (by simp);have hk1:(i'+(r.length+1))*k=i'*k+k+r.length*k:=by rw [Nat.add_mul,Nat.add_mul];omega
   simp only [List.length_cons] at h3;obtain ⟨f1,f2⟩:=a7a (i'*k) v.cells.toList 0 cells (by simp [hv];omega);have hk2:(i'+1+r.length)*k=i'*k+k+r.length*k:=by rw [Nat.add_mul,Nat.add_mul];omega
   have hk3:(i'+1)*k=i'*k+k:=by rw [Nat.add_mul];omega
   obtain ⟨cells',k1,k2,k3⟩:=a9o r (i'+1) (((v.cells.toList.zipIdx 0).foldl (fun cs p=>cs.setIfInBounds (i'*k+p.2) p.1) cells)) (fun j hj=>by have:=h1 (j+1) (by simp;omega);simp at this;omega)
    (fun p hp=>h2 p (by simp [hp])) (by rw [f1];omega)
   refine ⟨cells',?_,k2.trans f1,fun q => ?_⟩
   ·simp only [Instr.fill];rw [if_neg (by simp [hv];omega),<-k1];congr 1;rw [<-Array.foldl_toList,Array.toList_zipIdx]
   rw [k3 q,f2 q];have hc0:(cellsOf (List.map (·.2) ((i',v)::r)))=v.cells.toList++cellsOf (r.map (·.2)):=by simp [cellsOf]
   simp only [List.length_cons,Array.length_toList,hv,Nat.add_zero,hc0,hk1,hk2,hk3];by_cases g1:i'*k+k<=q/\q<i'*k+k+r.length*k
   ·rw [if_pos g1,if_pos (by omega)];simp only [List.getD_eq_getElem?_getD];rw [zp8 (by simp [hv];omega)];congr 2;simp [hv];omega
   rw [if_neg g1];by_cases g2:i'*k<=q/\q<i'*k+k
   ·rw [if_pos g2,if_pos (by omega)];simp only [List.getD_eq_getElem?_getD];rw [zp7 (by simp [hv];omega)]
   rw [if_neg g2,if_neg (by omega)]
section
variable {P:Program} {T:a0i} (hT:TOk P T) {σ:St} {g:Nat->AV} {o:Oper} {ss:a1C} {h':Option (List Obj)} {H:List Obj} {an:Ann}
 (hg:Less g σ) (hgd : ∀ d,o.dst=some d->g d=σ.get d) (h:a0E Ar.std T an σ.n g H o=some (ss,h'))
include hT hg hgd h
omit hT hg hgd h in
theorem b2Y {P:Program} {T:a0i} (hT:TOk P T) {σ:St} {g:Nat->AV} {o:Oper} (hg:Less g σ) {t:TypeId} {cnt:Nat} {parts:Array (Nat×Operand)} (hop:o.op = .buildSlice t cnt parts) {sz e:Nat} {z:List AV} {td:TD} (ht:T t=some { size:=sz,u := .slice e,zero:=z }) (hte:T e=some td)
  (hps:parts.size=cnt) (hpos:0<td.size) (hbig:cnt*td.size<=4096) {l:List D} (hl:a3q Ar.std T g e td.size parts.toList 0=some l) {G:Gh} {a:Act} {w:World} (R:Rel G σ a w) :
  ∃ cells':Array Value,a0k td.size l/\(D.flat l).length=cells'.size/\(execOp a.eval o).run P w = .ok (.value (.slice (some ⟨w.heap.size,0,none⟩) l.length l.length)) (w.alloc (.cells cells' e)) /\
    ∀ (q:Nat) (hq:q<(D.flat l).length),RepD G.K (D.flat l)[q] (cells'.getD q Go.undef)/\(cells'.getD q Go.undef).oneCell'=true:=by
 obtain ⟨e1,e2,e3⟩:=a7b hg R parts.toList 0 l hl;obtain ⟨i,dd,hi,hdd,hsz,_,huok,z0,hz,hzs,hzl,hzc⟩:=hT.info hte;let vals:List Value:=parts.toList.map fun p=>a.eval p.2;have hlv:l.length=vals.length:=by simp [vals,e1]
 have hlen:l.length=cnt:=by rw [e1];simpa using hps
 have hrep : ∀ (j:Nat) (hj:j<l.length) (hj':j<vals.length),RepD G.K l[j] vals[j]:=by
  intro j hj hj';have:=(e3 j (by simpa [vals] using hj') hj).2;simpa [vals] using this
 obtain ⟨c1,c2⟩:=b0l hpos hlv e2 hrep;have hvu : ∀ p∈(parts.toList.map fun p=>(p.1,a.eval p.2)),p.2.cells.size=td.size:=by
  intro p hp;obtain ⟨j,hj,rfl⟩:=List.mem_iff_getElem.1 hp;simp at hj;have:=(hrep j (by omega) (by simp [vals];omega)).cells.1;simp [vals] at this;simp [this];exact e2 _ (zp6 _)
 obtain ⟨cells',k1,k2,k3⟩:=a9o (parts.toList.map fun p=>(p.1,a.eval p.2)) 0 ((Array.range (cnt*td.size)).map (z0.cells[· % z0.cells.size]!)) (fun j hj=>by
  simp at hj ⊢;have:=(e3 j (by simpa using hj) (by omega)).1;simpa using this) hvu (by simp [hps])
 have hrun:(execOp a.eval o).run P w = .ok (.value (.slice (some ⟨w.heap.size,0,none⟩) l.length l.length)) (w.alloc (.cells cells' e)):=by
  have hb : ¬ 2 ^ 24<cnt*td.size:=by omega
  have k1':Instr.fill (fun i=>some (i*td.size,td.size)) ((Array.range (cnt*td.size)).map (z0.cells[· % z0.cells.size]!)) (parts.map fun p=>(p.1,a.eval p.2)).toList=some cells':=by
   simpa using k1
  by_cases h0:cnt*td.size=0
  ·have hc0:cnt=0:=by
    rcases Nat.mul_eq_zero.1 h0 with h | h
    ·exact h
    omega
   subst hc0;have hcells:cells' = #[]:=by
    have:cells'.size=0:=by rw [k2];simp
    exact Array.eq_empty_of_size_eq_zero this
   subst hcells;have hp0:parts = #[]:=by
    exact Array.eq_empty_of_size_eq_zero hps
   subst hp0;simp [execOp,hop,Instr.buildSlice,Go.underlying,hT.slice ht,hT.size hte,Instr.fill,newRow,hlen];exact congrArg (fun c=>w.alloc (.cells c e)) (Array.eq_empty_of_size_eq_zero (by simp))
  have hne' : ¬ (cnt=0\/td.size=0):=by
   intro hh;exact h0 (Nat.mul_eq_zero.2 hh)
  have key:(Instr.buildSlice t cnt (parts.map fun p=>(p.1,a.eval p.2))).run P w = .ok (.slice (some ⟨w.heap.size,0,none⟩) cnt cnt) (w.alloc (.cells cells' e)):=by
   unfold Instr.buildSlice;simp only [Sem.run_bind,Go.underlying,run_program,Result.andThen_ok,hT.slice ht,Sem.run_pure,hT.size hte,gt_iff_lt,if_neg hb,if_neg h0];simp only [zeroValue,typeInfo,Sem.run_bind,run_program,hi,hz,Result.andThen_ok,Sem.run_pure];rw [k1'];simp [newRow]
  simp only [execOp,hop,Sem.run_bind];rw [key];simp [hlen]
 refine ⟨cells',e2,by rw [a0b e2,k2];simp [hlen],hrun,fun q hq => ?_⟩;have hq':q<cnt*td.size:=by rw [<-hlen,<-a0b e2];exact hq
 rw [k3 q,if_pos (by simp [hps];exact hq')];have:=c2 q hq;simpa [vals,Function.comp_def] using this
theorem a5D {t:TypeId} {cnt:Nat} {parts:Array (Nat×Operand)} (hop:o.op = .buildSlice t cnt parts):a0f P σ o ss h':=by
 have hnd : ∀ c,o.op ≠ .defer c:=by simp [hop]
 simp only [a0E,hop] at h;split at h
 ·rename_i sz e z ht;split at h
  ·rename_i td hte;split at h
   ·rename_i hc;simp at hc;obtain ⟨⟨⟨hps,hpos⟩,hbig⟩,hsome⟩:=hc;split at h
    ·rename_i l hl;obtain ⟨rfl,hcase⟩:=a0G h;intro r n m G a w Q next hm R hn
     obtain ⟨e1,e2,e3⟩:=a7b hg R parts.toList 0 l hl;obtain ⟨i,dd,hi,hdd,hsz,_,huok,z0,hz,hzs,hzl,hzc⟩:=hT.info hte;let vals:List Value:=parts.toList.map fun p=>a.eval p.2;have hlv:l.length=vals.length:=by simp [vals,e1]
     have hlen:l.length=cnt:=by rw [e1];simpa using hps
     have hrep : ∀ (j:Nat) (hj:j<l.length) (hj':j<vals.length),RepD G.K l[j] vals[j]:=by
      intro j hj hj';have:=(e3 j (by simpa [vals] using hj') hj).2;simpa [vals] using this
     obtain ⟨c1,c2⟩:=b0l hpos hlv e2 hrep;have hvu : ∀ p∈(parts.toList.map fun p=>(p.1,a.eval p.2)),p.2.cells.size=td.size:=by
      intro p hp;obtain ⟨j,hj,rfl⟩:=List.mem_iff_getElem.1 hp;simp at hj;have:=(hrep j (by omega) (by simp [vals];omega)).cells.1;simp [vals] at this;simp [this];exact e2 _ (zp6 _)
     obtain ⟨cells',k1,k2,k3⟩:=a9o (parts.toList.map fun p=>(p.1,a.eval p.2)) 0 ((Array.range (cnt*td.size)).map (z0.cells[· % z0.cells.size]!)) (fun j hj=>by
      simp at hj ⊢;have:=(e3 j (by simpa using hj) (by omega)).1;simpa using this) hvu (by simp [hps])
     have hrun:(execOp a.eval o).run P w = .ok (.value (.slice (some ⟨w.heap.size,0,none⟩) l.length l.length)) (w.alloc (.cells cells' e)):=by
      have hb : ¬ 2 ^ 24<cnt*td.size:=by omega
      have k1':Instr.fill (fun i=>some (i*td.size,td.size)) ((Array.range (cnt*td.size)).map (z0.cells[· % z0.cells.size]!)) (parts.map fun p=>(p.1,a.eval p.2)).toList=some cells':=by
       simpa using k1
      by_cases h0:cnt*td.size=0
      ·have hc0:cnt=0:=by
        rcases Nat.mul_eq_zero.1 h0 with h | h
        ·exact h
        omega
       subst hc0;have hcells:cells' = #[]:=by
        have:cells'.size=0:=by rw [k2];simp
        exact Array.eq_empty_of_size_eq_zero this
       subst hcells;have hp0:parts = #[]:=by
        exact Array.eq_empty_of_size_eq_zero hps
       subst hp0;simp [execOp,hop,Instr.buildSlice,Go.underlying,hT.slice ht,hT.size hte,Instr.fill,newRow,hlen];exact congrArg (fun c=>w.alloc (.cells c e)) (Array.eq_empty_of_size_eq_zero (by simp))
      have hne' : ¬ (cnt=0\/td.size=0):=by
       intro hh;exact h0 (Nat.mul_eq_zero.2 hh)
      have key:(Instr.buildSlice t cnt (parts.map fun p=>(p.1,a.eval p.2))).run P w = .ok (.slice (some ⟨w.heap.size,0,none⟩) cnt cnt) (w.alloc (.cells cells' e)):=by
       unfold Instr.buildSlice;simp only [Sem.run_bind,Go.underlying,run_program,Result.andThen_ok,hT.slice ht,Sem.run_pure,hT.size hte,gt_iff_lt,if_neg hb,if_neg h0];simp only [zeroValue,typeInfo,Sem.run_bind,run_program,hi,hz,Result.andThen_ok,Sem.run_pure];rw [k1'];simp [newRow]
      simp only [execOp,hop,Sem.run_bind];rw [key];simp [hlen]
     have hw1:w.heap=w.heap:=rfl;rcases hcase with ⟨hdst,rfl⟩ | ⟨d,hdst,rfl,hlt,hbox⟩
     ·rw [hdst] at hsome;cases hsome
     obtain ⟨G',R',hext⟩:=R.newList (w1:=w) rfl rfl rfl rfl (Nat.le_refl _) (d:=d) (k:=td.size) (cap:=l.length) (l:=l) (vs:=cells') e hlt (by rw [<-hgd d hdst];exact hbox) e2 (Nat.le_refl _) (by rw [k2];simp [hlen])
      (fun q hq=>by
       have hq':q<cnt*td.size:=by rw [<-hlen,<-a0b e2];exact hq
       rw [k3 q,if_pos (by simp [hps];exact hq')];have:=c2 q hq;simpa [vals,Function.comp_def] using this)
     refine a0y hnd hrun (hn G' _ _ ?_ (hext m));rw [hdst];have hmk:mkL an (some d) td.size l = .own td.size l\/mkL an (some d) td.size l = .lim td.size l:=by
      unfold mkL;split
      ·split
       ·exact .inr rfl
       exact .inl rfl
      exact .inl rfl
     rcases hmk with hmk | hmk
     ·rw [hmk];exact R'
     rw [hmk];have hd':d<a.tmps.size:=by rw [R.size];exact hlt
     have R2:=R'.toLim (s:=d) (k:=td.size) (l:=l) (by simp [St.upd,St.get,a0r,a0d]) (fun b n cap e=>by
      simp only [Act.put,a1q _ _ _ _ hd',if_true] at e;injection e with _ h1 h2;omega)
     rw [a5B] at R2;have he:σ.upd ([(d,.own td.size l)]++[(d,.lim td.size l)]) none=σ.upd [(d,.lim td.size l)] none:=by
      simp only [St.upd,List.cons_append,List.nil_append,a0r,List.foldl_cons,List.foldl_nil,a5x]
     rw [he] at R2;exact R2
    simp at h
   simp at h
  simp at h
 simp at h
end
theorem Rel.inPlace {G:Gh} {σ:St} {a:Act} {w:World} (R:Rel G σ a w) {s d k n cap:Nat} {l ys:List D} {b off:Nat} {z:Bool} (hs:σ.get s = .ownZ z k l) (hsv:a.tmps.getD s Go.undef = .slice (some ⟨b,off,none⟩) n cap)
  (hlt:d<σ.n) (hbox:(σ.get d).isBox=false) (hu:a0k k ys) {vs:List Value} (hvl:vs.length=(D.flat ys).length)
  (hv : ∀ (q:Nat) (hq:q<(D.flat ys).length),RepD G.K (D.flat ys)[q] (vs.getD q Go.undef)/\(vs.getD q Go.undef).oneCell'=true) (hfit:n+ys.length<=cap) (hys:ys≠[]) :
  n=l.length /\ ∃ cur e,w.heap[b]?=some (.cells cur e (0,0))/\off+cap*k<=cur.size /\ ∃ G',Rel G' (σ.upd [(s,.d (.list k l)),(d,.ownZ z k (l++ys))] none)
   (a.put (some d) (.slice (some ⟨b,off,none⟩) (n+ys.length) cap)) (w.setRow b (rowOf cur (off+n*k) vs)) /\ ∀ m,Ext m G w G' (w.setRow b (rowOf cur (off+n*k) vs)):=by
 have hrep:=R.slots s;rw [hs,hsv,a1O] at hrep;obtain ⟨hr,ht⟩:=hrep;have hyp:0<ys.length:=List.length_pos_iff.2 hys;obtain ⟨f,cur,e,hO,hf,hw,hsz,hoff0⟩:=ht _ _ _ rfl (by omega);dsimp only at hO hf hw hsz hoff0;obtain ⟨rfl,hul,hcl,vs0,hK,h1,hh⟩:n=l.length/\a0k k l/\l.length<=cap /\ ∃ vs0:Nat->Value,(∀ j,j<(D.flat l).length->G.K ⟨b,off+j,none⟩=some (vs0 j))/\(∀ j,j<(D.flat l).length->(vs0 j).oneCell'=true) /\
   ∀ (j:Nat) (hj:j<(D.flat l).length),RepD G.K (D.flat l)[j] (vs0 j):=by
  generalize hv':Value.slice (some ⟨b,off,none⟩) n cap=v at hr;cases hr with
  | nil=>simp at hv'
  | none0=>simp at hv';omega
  | list k l b' off' cap' vs0 hu hc hK h1 hh =>
    simp at hv';obtain ⟨⟨rfl,rfl⟩,rfl,rfl⟩:=hv';exact ⟨rfl,hu,hc,vs0,hK,h1,hh⟩
 refine ⟨rfl,cur,e,hw,hsz,?_⟩;have hfl:=a0b hul;have hfy:=a0b hu;have hle:(l.length+ys.length)*k<=cap*k:=Nat.mul_le_mul_right k hfit;have hadd:(l.length+ys.length)*k=l.length*k+ys.length*k:=Nat.add_mul _ _ _;let lo:=off+l.length*k;let hi:=off+(l.length+ys.length)*k;have hcur:lo+vs.length<=cur.size:=by simp only [lo];omega
 let G':Gh:=(G.own b (.s d) hi).keep b lo hi (fun q=>vs.getD (q-lo) Go.undef);let w':=w.setRow b (rowOf cur lo vs);have hw':w'.heap[b]?=some (.cells (rowOf cur lo vs) e (0,0)):=setRow_heap _ _ _ _ _ _ hw;have hother : ∀ b',b'≠b->w'.heap[b']?=w.heap[b']?:=fun b' hb=>setRow_other _ _ _ _ hb;have hblt:=(R.h.disj _ _ _ hO).1;have hfree:=(R.h.disj _ _ _ hO).2;have hKle:KLe G.K G'.K:=by
  intro x v h;simp only [G',Gh.keep,Gh.own];rw [if_neg];exact h;rintro ⟨hb,hsp,h2,h3⟩;obtain ⟨xb,xo,xs⟩:=x;simp at hb hsp;subst hb hsp;rw [hfree xo (by simp only [lo] at h2;omega)] at h;cases h
 have hOold : ∀ b' x f',x ≠ .s s->G.O b'=some (x,f')->G'.O b'=some (x,f'):=by
  intro b' x f' hx h;have:b'≠b:=by rintro rfl;rw [hO] at h;simp at h;exact hx h.1.symm
  simp [G',Gh.own,Gh.keep,this,h]
 have hpr:Pres G G' w w' (fun x=>x ≠ .s s) :=
  ⟨hKle,fun b' x f' hx h=>⟨hOold b' x f' hx h,hother b' (by rintro rfl;rw [hO] at h;simp at h;exact hx h.1.symm)⟩,fun _ _=>rfl,Nat.le_refl _⟩
 have hd':d<a.tmps.size:=by rw [R.size];exact hlt
 have hKnew : ∀ q,q<ys.length*k->G'.K ⟨b,lo+q,none⟩=some (vs.getD q Go.undef):=by
  intro q hq;have c1:lo<=lo+q:=Nat.le_add_right _ _;have c2:lo+q<hi:=by simp only [lo,hi];omega
  simp only [G',Gh.keep,Gh.own];rw [if_pos ⟨trivial,trivial,c1,c2⟩];congr 2;omega
 have hrepNew:RepD G'.K (.list k (l++ys)) (.slice (some ⟨b,off,none⟩) (l.length+ys.length) cap):=by
  have huu:a0k k (l++ys):=fun x hx=>by rcases List.mem_append.1 hx with hx | hx;exact hul x hx;exact hu x hx
  have:=RepD.list (K:=G'.K) k (l++ys) b off cap (fun j=>if j<l.length*k then vs0 j else vs.getD (j-l.length*k) Go.undef) huu (by simp;omega)
   (fun j hj => ?_) (fun j hj => ?_) (fun j hj => ?_)
  ·simpa using this
  all_goals rw [a0C,List.length_append,hfl,hfy] at hj
  ·split
   ·exact hKle _ _ (hK j (by omega))
   have:=hKnew (j-l.length*k) (by omega)
   rwa [show lo+(j-l.length*k)=off+j by simp only [lo];omega] at this
  ·split
   ·exact h1 j (by omega)
   exact (hv _ (by omega)).2
  simp only [a0C];split
  ·rw [List.getElem_append_left (by omega)];exact (hh j (by omega)).mono hKle
  rw [List.getElem_append_right (by omega)];have:=(hv (j-l.length*k) (by omega)).1.mono hKle;simpa [hfl] using this
 refine ⟨G',⟨⟨⟨fun b' x f' h => ?_⟩,R.h.nh,fun i ob hob => ?_,fun x v h => ?_,fun b' x f' h => ?_⟩,by simpa [Act.put,St.upd] using R.size,?_,?_,?_⟩,fun m=>⟨hKle,fun x v h => ?_,fun b' hb h=>⟨?_,?_⟩,by simp,fun _ _=>rfl,rfl,rfl,fun a _=>a2t _ _ _ a,rfl,Nat.le_refl _⟩⟩
 ·simp only [G',Gh.own,Gh.keep] at h;split at h
  ·simp at h;rw [<-h.1];simp [Loc.root]
  exact R.h.sane.no b' x f' h
 ·exact (R.h.objs i ob hob).pres R.h.sane (by rw [<-R.h.nh];exact (zp2.1 hob).1) hpr (by simp) (by simp)
 ·show w'.cell? x=some v;simp only [G',Gh.keep,Gh.own] at h;split at h
  ·rename_i hc;obtain ⟨hb,hsp,h2,h3⟩:=hc;obtain ⟨xb,xo,xs⟩:=x;simp at hb hsp h2 h3 h;subst hb hsp;have hlt2:xo<cur.size:=by simp only [hi] at h3;omega
   rw [a0V hw' (by rw [a0X hcur];exact hlt2),a1x hcur];rw [if_neg (by omega),if_pos (by simp only [hi,lo] at h3 h2 ⊢;omega)];simpa using h
  have hx:=R.h.kept x v h;by_cases hxb:x.block=b
  ·have hsp:x.spot=none:=by
    unfold World.cell? at hx;split at hx
    ·split at hx
     ·cases hx
     rename_i hsp;simpa using hsp
    cases hx
   obtain ⟨xb,xo,xs⟩:=x;simp at hxb hsp;subst hxb hsp;have hlo:xo<lo:=by
    rcases Nat.lt_or_ge xo lo with h' | h'
    ·exact h'
    rw [hfree xo (by simp only [lo] at h';omega)] at h;cases h
   have hxs:xo<cur.size:=by omega
   rw [a0V hw' (by rw [a0X hcur];exact hxs),a1x hcur,if_pos hlo]
   rwa [a0V hw hxs] at hx
  unfold World.cell? at *
  rwa [hother _ hxb]
 ·simp only [G',Gh.own,Gh.keep] at h;split at h
  ·rename_i hbe;subst hbe;simp at h;obtain ⟨_,rfl⟩:=h;refine ⟨by simpa [w'] using hblt,fun j hj => ?_⟩;simp only [G',Gh.keep,Gh.own];rw [if_neg (by intro hc;have:=hc.2.2.2;omega)];exact hfree j (by simp only [hi] at hj;omega)
  rename_i hbe;have:=R.h.disj b' x f' h;refine ⟨by simpa [w'] using this.1,fun j hj => ?_⟩;simp only [G',Gh.keep,Gh.own];rw [if_neg (by intro hc;exact hbe hc.1)];exact this.2 j hj
 ·intro t;simp only [Act.put,a1q _ _ _ _ hd',St.upd,St.get,a0r,List.foldl_cons,List.foldl_nil,a0d];split
  ·rename_i e';subst e';refine a1O.2 ⟨hrepNew,?_⟩;intro a' n' cap' hv' _;simp at hv';obtain ⟨rfl,rfl,rfl⟩:=hv';exact ⟨hi,_,e,by simp [G',Gh.own,Gh.keep],Nat.le_refl _,hw',by rw [a0X hcur];exact hsz,hoff0⟩
  split
  ·rename_i e';subst e';rw [hsv];exact .d _ _ _ (hr.mono hKle)
  rename_i hne;exact (R.slots t).pres R.h.sane hpr (by simp;exact fun e=>hne e.symm) (fun r' off' e'=>rfl) (fun t' e' hbx=>⟨rfl,by simp⟩)
 ·intro t r'' off' ht;simp only [St.upd,St.get,a0r,List.foldl_cons,List.foldl_nil,a0d] at ht ⊢;split at ht
  ·exact absurd ht (by cases z <;> simp [AV.ownZ])
  split at ht
  ·cases ht
  obtain ⟨cs',hcs'⟩:=R.places t r'' off' ht;split
  ·rename_i e;subst e;rw [show σ.get d=_ from hcs'] at hbox;simp [AV.isBox] at hbox
  split
  ·rename_i e;subst e;rw [hcs'] at hs;exact absurd hs (by cases z <;> simp [AV.ownZ])
  exact ⟨cs',hcs'⟩
 ·refine ⟨R.df.1,fun x hx => ?_⟩;obtain ⟨r0,h1,h2,h3⟩:=R.df.2 x hx;exact ⟨r0,h1,hOold _ _ _ (by simp) h2,by rw [hother _ (by rintro rfl;rw [hO] at h2;simp at h2)];exact h3⟩
 ·simp only [G',Gh.keep,Gh.own] at h;split at h
  ·rename_i hc;exact .inr (.inl ⟨(.s s,f),by rw [hc.1];exact hO⟩)
  exact .inl h
 ·exact hother b' (by rintro rfl;rw [hO] at h;cases h)
 have:b'≠b:=by rintro rfl;rw [hO] at h;cases h
 simp [G',Gh.own,Gh.keep,this,h]
theorem a8i (need:Nat) : ∀ (r c:Nat),Builtin.growBy need r c<=max c (2*need+200)
 | 0,c=>by simp [Builtin.growBy];omega
 | r+1,c=>by
   unfold Builtin.growBy;split
   ·omega
   have:=a8i need r (c+(c+768) / 4);omega
theorem a2u {need cap:Nat} (h:cap<need):Builtin.nextslicecap need cap<=2*need+200:=by
 unfold Builtin.nextslicecap;split
 ·omega
 split
 ·omega
 have:=a8i need 4 cap;omega
theorem a1c {P:Program} {G:Gh} {w:World} (hk : ∀ x v,G.K x=some v->w.cell? x=some v) {k:Nat} {l:List D} {v:Value} (h:RepD G.K (.list k l) v) :
  ∃ arr:Array Value,(Builtin.firstCells k l.length v).run P w = .ok arr w/\arr.size=(D.flat l).length/\a0k k l /\
    ∀ (q:Nat) (hq:q<(D.flat l).length),RepD G.K (D.flat l)[q] (arr.getD q Go.undef)/\(arr.getD q Go.undef).oneCell'=true:=by
 cases h with
 | nil=>exact ⟨#[],by simp [Builtin.firstCells],rfl,fun x hx=>by simp at hx,fun q hq=>by simp [D.flat] at hq⟩
 | none0 k a=>exact ⟨#[],by simp [Builtin.firstCells,loadCells,loadCellsFrom],rfl,fun x hx=>by simp at hx,fun q hq=>by simp [D.flat] at hq⟩
 | list k l b off cap vs hu hc hK h1 hh =>
   have hfl:=a0b hu;have hl:=run_loadCells (P:=P) w ⟨b,off,none⟩ (l.length*k) vs (fun j hj=>by rw [Addr.add_none];exact hk _ _ (hK j (by omega)));refine ⟨((List.range (l.length*k)).map vs).toArray,by simp [Builtin.firstCells,hl],by simp [hfl],hu,fun q hq => ?_⟩;have:((List.range (l.length*k)).map vs).toArray.getD q Go.undef=vs q:=by
    simp [show q<l.length*k by omega]
   rw [this];exact ⟨hh q hq,h1 q hq⟩
theorem Rel.drew {G:Gh} {σ:St} {a:Act} {w w1:World} (R:Rel G σ a w) (h:w1.heap=w.heap):Rel G σ a w1:=by
 have hpr:Pres G G w w1 (fun _=>True):=⟨KLe.refl _,fun b x f _ hO=>⟨hO,by rw [h]⟩,fun _ _=>rfl,Nat.le_refl _⟩;have hc : ∀ x,w1.cell? x=w.cell? x:=by intro x;unfold World.cell?;rw [h]
 refine ⟨⟨R.h.sane,R.h.nh,fun i ob hob=>(R.h.objs i ob hob).pres R.h.sane (by rw [<-R.h.nh];exact (zp2.1 hob).1) hpr trivial (fun _=>trivial),
  fun x v hx=>by rw [hc];exact R.h.kept x v hx,fun b ℓ f hO=>by rw [h];exact R.h.disj b ℓ f hO⟩,R.size,fun t=>(R.slots t).pres R.h.sane hpr trivial (fun _ _ _=>rfl) (fun _ _ _=>⟨rfl,fun _=>trivial⟩),R.places,?_⟩
 exact ⟨R.df.1,fun d hd=>by obtain ⟨r,h1,h2,h3⟩:=R.df.2 d hd;exact ⟨r,h1,h2,by rw [h];exact h3⟩⟩
theorem Ext.drew {m:Nat} {G:Gh} {w w1:World} (h:w1.heap=w.heap) (h1:w1.os=w.os) (h2:w1.output=w.output) (h3:w1.tape=w.tape:=by rfl) (h4:w.drawn<=w1.drawn:=by first | exact Nat.le_refl _ | exact Nat.le_succ _ | (simp;done) | (simp;omega)):Ext m G w G w1 :=
 ⟨KLe.refl _,fun _ _ h => .inl h,fun b _ hO=>⟨by rw [h],hO⟩,by rw [h];exact Nat.le_refl _,fun _ _=>rfl,h1,h2,(fun a _=>by unfold World.frozen?;rw [h]),h3,h4⟩
theorem a3D {P:Program} {T:a0i} {σ:St} {g:Nat->AV} (hg:Less g σ) {k1:Nat} {y:Operand} {u:TypeId} {ys:List D} (hy:a2B T g u y=some (k1,ys)) {G:Gh} {a:Act} {w:World} (R:Rel G σ a w) :
  a0k k1 ys/\(∃ b cap,a.eval y = .slice b ys.length cap) /\ ∀ w':World,w'.heap=w.heap -> ∃ arr:Array Value,(Builtin.firstCells k1 ys.length (a.eval y)).run P w' = .ok arr w'/\arr.size=(D.flat ys).length /\
   ∀ (q:Nat) (hq:q<(D.flat ys).length),RepD G.K (D.flat ys)[q] (arr.getD q Go.undef)/\(arr.getD q Go.undef).oneCell'=true:=by
 have hys:=a2M hg hy R;refine ⟨(a1c (P:=P) R.h.kept hys).choose_spec.2.2.1,?_,fun w' hw => ?_⟩
 ·rcases hys.slice with ⟨rfl,oa,hv⟩ | ⟨b,off,cap,hv⟩
  ·exact ⟨_,_,hv⟩
  exact ⟨_,_,hv⟩
 obtain ⟨arr,h1,h2,_,h4⟩:=a1c (P:=P) (w:=w') (fun x v hx=>by
  have:=R.h.kept x v hx;unfold World.cell? at *
  rwa [hw]) hys
 exact ⟨arr,h1,h2,h4⟩
theorem a3a {P:Program} {T:a0i} (hT:TOk P T) {σ:St} {g:Nat->AV} {o:Oper} (hg:Less g σ) (hgd : ∀ d,o.dst=some d->g d=σ.get d) {s d k1:Nat} {y:Operand} {t u:TypeId} {l ys:List D} {z:Bool}
  (hop:o.op = .call { callee := .builtin .append,args := #[.tmp s,y],argTypes := #[t,u] }) (ht:a0h T t=some k1) (hu':a0h T u=some k1)
  (hsrc : ∀ {G:Gh} {a:Act} {w:World},Rel G σ a w->a0k k1 ys/\(∃ b cap,a.eval y = .slice b ys.length cap) /\ ∀ w':World,w'.heap=w.heap -> ∃ arr:Array Value,(Builtin.firstCells k1 ys.length (a.eval y)).run P w' = .ok arr w'/\arr.size=(D.flat ys).length /\
   ∀ (q:Nat) (hq:q<(D.flat ys).length),RepD G.K (D.flat ys)[q] (arr.getD q Go.undef)/\(arr.getD q Go.undef).oneCell'=true) (hdst:o.dst=some d)
  (hs:σ.get s = .ownZ z k1 l\/(σ.get s = .lim k1 l/\ys≠[]/\z=true)) (hz:z=false->ys≠[]) (_:0<k1) (hlt:d<σ.n) (hbx:(g d).isBox=false) (hsd : ¬ s=d) (hfits:(l.length:Int)+ys.length<4294967296) :
  a0f P σ o [(s,.d (.list k1 l)),(d,.ownZ z k1 (l++ys))] none:=by
 have hnd : ∀ c,o.op ≠ .defer c:=by simp [hop]
 obtain ⟨sz,e,zz,td,hTt,hTe,hks⟩:=a0l ht;obtain ⟨sz1,e1,zz1,td1,hTt1,hTe1,hks1⟩:=a0l hu';have hdb:(σ.get d).isBox=false:=by rw [<-hgd d hdst];exact hbx
 obtain ⟨ie,dd,hie,hdd,hsz,hbytes,huok,z0,hz,hzs,hzl,hzc⟩:=hT.info hTe;intro r n m G a w Q next hm R hn
 obtain ⟨f3,hyl,hfc⟩:=hsrc R;obtain ⟨arrY,f1,f2,f4⟩:=hfc w rfl;have hrep:=R.slots s;have hev:a.eval (.tmp s)=a.tmps.getD s Go.undef:=rfl;generalize hsv:a.tmps.getD s Go.undef=sv at hrep;have hr:RepD G.K (.list k1 l) sv:=by
  rcases hs with hs | ⟨hs,_⟩
  ·rw [hs,a1O] at hrep;exact hrep.1
  rw [hs] at hrep;cases hrep;assumption
 have hlim : ∀ b n cap,sv = .slice b n cap->σ.get s = .ownZ z k1 l\/(n=cap/\ys≠[]):=by
  intro b n cap e;rcases hs with hs | ⟨hs,hne⟩
  ·exact .inl hs
  rw [hs] at hrep;cases hrep with | lim _ _ _ _ _ ht=>exact .inr ⟨ht _ _ _ e,hne.1⟩
 clear hrep;obtain ⟨arrS,s1,s2,s3,s4⟩:=a1c (P:=P) R.h.kept hr

 obtain ⟨by',cy,hyv⟩:=hyl;rw [hyv] at f1;have hsl : ∃ b cap,sv = .slice b l.length cap/\(b=none->cap=0):=by
  rcases hr.slice with ⟨rfl,oa,hv⟩ | ⟨b,off,cap,hv⟩
  ·exact ⟨_,_,hv,fun _=>rfl⟩
  exact ⟨_,_,hv,fun h=>by cases h⟩
 obtain ⟨bs,cs,rfl,hbn⟩:=hsl;have huni:a0k k1 (l++ys):=fun x hx=>by rcases List.mem_append.1 hx with hx | hx;exact s3 x hx;exact f3 x hx
 have hnz : ∀ w:World,(Go.underlying u).run P w = .ok (.slice e1) w:=by intro w;simp [Go.underlying,hT.slice hTt1]
 have hs':σ.get s = .own k1 l\/σ.get s = .lim k1 l\/σ.get s = .tail k1 l:=by
  rcases hs with hs | ⟨hs,_⟩
  ·cases z
   ·exact .inr (.inr hs)
   exact .inl hs
  exact .inr (.inl hs)
 by_cases hcap:l.length+ys.length<=cs
 ·
  have hso:σ.get s = .ownZ z k1 l:=by
   rcases hlim _ _ _ rfl with hs | ⟨hn,hne⟩
   ·exact hs
   have hyp:0<ys.length:=List.length_pos_iff.2 hne;omega
  by_cases hy0:ys=[]
  ·obtain rfl:z=true:=by cases z with | true=>rfl | false=>exact absurd hy0 (hz rfl)
   have hso:σ.get s = .own k1 l:=hso;subst hy0;have harr:arrY = #[]:=Array.eq_empty_of_size_eq_zero (by simpa [D.flat] using f2);subst harr;have hrun:(execOp a.eval o).run P w = .ok (.value (.slice bs l.length cs)) w:=by
    have hcap':l.length<=cs:=by simpa using hcap
    simp at f1;cases bs with
    | none=>simp [execOp,hop,resolve,invoke,Go.builtin,Builtin.append_,hev,hsv,hyv,Go.underlying,hT.slice hTt,hT.slice hTt1,hT.size hTe,Builtin.lenOf,hks,f1,hcap']
    | some b=>simp [execOp,hop,resolve,invoke,Go.builtin,Builtin.append_,hev,hsv,hyv,Go.underlying,hT.slice hTt,hT.slice hTt1,hT.size hTe,Builtin.lenOf,hks,f1,hcap',storeCells]
   obtain ⟨R1,hrep1⟩:=R.give hso (.s d) (by simp [Loc.root]);refine a0y hnd hrun (hn _ _ _ ?_ (Ext.move m G w (.s s) (.s d)));rw [hdst];rw [hsv] at hrep1;have hb1:((σ.upd [(s,.d (.list k1 l))] none).get d).isBox=false:=by
    simp only [St.upd,St.get,a0r,List.foldl_cons,List.foldl_nil,a0d,if_neg hsd];exact hdb
   have:=R1.put (d:=d) hrep1 (fun r off e=>by cases e) hb1 hlt;rw [a5B] at this;simpa [AV.ownZ] using this
  cases bs with
  | none =>
    have:=hbn rfl;have hyp:0<ys.length:=List.length_pos_iff.2 hy0;omega
  | some ad =>
    obtain ⟨b,off,spot⟩:=ad;have hspot:spot=none:=by
     rcases hr.slice with ⟨_,oa,hv⟩ | ⟨b',off',cap',hv⟩
     ·simp at hv;have hyp:0<ys.length:=List.length_pos_iff.2 hy0;omega
     simp at hv;exact hv.1.2.2
    subst hspot;obtain ⟨_,cur,ec,hw,hcs,G',R',hext⟩:=R.inPlace (vs:=arrY.toList) hso hsv hlt hdb f3 (by simpa using f2)
     (fun q hq=>by have:=f4 q hq;simpa [List.getD,zp5] using this) hcap hy0
    have hlen:arrY.toList.length=ys.length*k1:=by rw [<-a0b f3];simpa using f2
    have hmul:(l.length+ys.length)*k1<=cs*k1:=Nat.mul_le_mul_right k1 hcap;have hst:=run_storeCells_at P b (off+l.length*k1) ec arrY.toList 0 cur w hw (by rw [Nat.add_mul] at hmul;omega) (fun v hv=>by
     obtain ⟨q,hq,rfl⟩:=List.mem_iff_getElem.1 hv;have:=(f4 q (by simp at hq;omega)).2;have hq':q<arrY.size:=by simpa using hq
     simpa [Array.getD,hq'] using this)
    have hrun:(execOp a.eval o).run P w = .ok (.value (.slice (some ⟨b,off,none⟩) (l.length+ys.length) cs)) (w.setRow b (rowOf cur (off+l.length*k1) arrY.toList)):=by
     simp only [Nat.add_zero] at hst;simp [execOp,hop,resolve,invoke,Go.builtin,Builtin.append_,hev,hsv,hyv,Go.underlying,hT.slice hTt,hT.slice hTt1,hT.size hTe,Builtin.lenOf,hks,f1,hcap,Addr.add_none,hst,rowOf]
    refine a0y hnd hrun (hn G' _ _ ?_ (hext m));rw [hdst];exact R'
 
 have R1:=R.demote hs';have hneed:l.length+ys.length<4294967296:=by omega
 have hbig : ¬ Builtin.nextslicecap (l.length+ys.length) cs*ie.bytes>2 ^ 48:=by
  have h1:=a2u (need:=l.length+ys.length) (cap:=cs) (by omega);have h2:Builtin.nextslicecap (l.length+ys.length) cs*ie.bytes<=(2*(l.length+ys.length)+200)*4096:=Nat.mul_le_mul h1 hbytes;omega
 have hmax : ¬ (((l.length+ys.length:Nat):Int)>IntKind.i64.max):=by
  have:IntKind.i64.max=9223372036854775807:=by decide
  omega
 let qn:=Question.appendCap (l.length+ys.length) cs e;have hforced:qn.forced=false:=rfl;let nc:=qn.cut (w.tape w.drawn qn);let wd:=w.drew;have hwd:wd.heap=w.heap:=rfl;have hwdos:wd.os=w.os:=rfl;have hwdout:wd.output=w.output:=rfl;have hnc:l.length+ys.length<=nc:=by simp [nc,qn,Question.cut]
 let rest:=Builtin.zeroCells z0.cells (nc-(l.length+ys.length));have hrest:rest.size=(nc-(l.length+ys.length))*k1:=by simp [rest,Builtin.zeroCells,hzs,hks]
 have hkd : ∀ x v,G.K x=some v->wd.cell? x=some v:=by
  intro x v hx;have:=R.h.kept x v hx;unfold World.cell? at *
  rwa [hwd]
 obtain ⟨arrY,f1,f2,f4⟩:=hfc wd hwd;obtain ⟨arrS,s1,s2,_,s4⟩:=a1c (P:=P) hkd hr;rw [hyv] at f1;have hrun:(execOp a.eval o).run P w = .ok (.value (.slice (some ⟨w.heap.size,0,none⟩) (l.length+ys.length) nc)) (wd.alloc (.cells (arrS++arrY++rest) e)):=by
  have hcap' : ¬ l.length+ys.length<=cs:=hcap;have key:(Builtin.append_ #[t,u] o.type #[.slice bs l.length cs,a.eval y]).run P w = .ok (.slice (some ⟨w.heap.size,0,none⟩) (l.length+ys.length) nc) (wd.alloc (.cells (arrS++arrY++rest) e)):=by
   unfold Builtin.append_;simp [Go.underlying,hT.slice hTt,hT.slice hTt1,hT.size hTe,Builtin.lenOf,hyv,hcap',hks,typeInfo,hie,hbig];have hmax' : ¬ ((9223372036854775807:Int)<(l.length:Int)+(ys.length:Int)/\ie.bytes=0):=by
    intro hh;omega
   rw [if_neg hmax'];have hforced':(Question.appendCap (l.length+ys.length) cs e).forced=false:=rfl;simp only [hforced',Bool.false_eq_true,if_false];rw [show (Builtin.firstCells k1 l.length (Value.slice bs l.length cs)).run P w.drew=_ from s1];simp only [Result.andThen_ok];rw [show (Builtin.firstCells k1 ys.length (Value.slice by' ys.length cy)).run P w.drew=_ from f1];simp only [Result.andThen_ok,zeroValue,typeInfo,Sem.run_bind,run_program,hie,hz,Sem.run_pure,newRow,run_newObj];simp [rest,nc,qn,wd]
   rfl
  simp only [execOp,hop,resolve,invoke,Go.builtin,Sem.run_bind,Sem.run_pure,Result.andThen_ok];simp [hev,hsv,key]
 have hfl:=a0b s3;have hfy:=a0b f3;have hb1:((σ.upd [(s,.d (.list k1 l))] none).get d).isBox=false:=by
  simp only [St.upd,St.get,a0r,List.foldl_cons,List.foldl_nil,a0d,if_neg hsd];exact hdb
 obtain ⟨G',R',hext⟩:=R1.newList (w1:=wd) hwd hwdos hwdout rfl (Nat.le_succ _) (d:=d) (k:=k1) (cap:=nc) (l:=l++ys) (vs:=arrS++arrY++rest) e hlt hb1 huni (by simpa using hnc) (by
   have:(arrS++arrY++rest).size=nc*k1:=by
    simp only [Array.size_append,s2,f2,hfl,hfy,hrest];rw [<-Nat.add_mul,<-Nat.add_mul];congr 1;omega
   omega)
  (fun q hq=>by
   simp only [a0C] at hq ⊢;have e0:(arrS++arrY++rest).getD q Go.undef=if q<arrS.size then arrS.getD q Go.undef else arrY.getD (q-arrS.size) Go.undef:=by
    simp only [List.length_append] at hq;simp only [zp5];split
    ·rename_i hq1;rw [Array.getElem?_append_left (by simp;omega),Array.getElem?_append_left hq1]
    rename_i hq1;rw [Array.getElem?_append_left (by simp;omega),Array.getElem?_append_right (by omega)]
   rw [e0];by_cases hq1:q<arrS.size
   ·rw [if_pos hq1,List.getElem_append_left (by omega)];exact s4 q (by omega)
   rw [if_neg hq1,List.getElem_append_right (by omega)];have:=f4 (q-arrS.size) (by simp at hq;omega);simpa [s2] using this)
 refine a0y hnd hrun (hn G' _ _ ?_ (hext m));rw [hdst];rw [a5B] at R';have hsd':s≠d:=hsd;have R2:=R'.loosen (s:=d) (k:=k1) (l:=l++ys) (z:=z) (by simp [St.upd,St.get,a0r,a0d]);rw [a5B] at R2;have he : ∀ (σ:St) (v:AV),σ.upd [(s,.d (.list k1 l)),(d,.own k1 (l++ys)),(d,v)] none=σ.upd [(s,.d (.list k1 l)),(d,v)] none:=by
  intro σ v;simp only [St.upd,a0r,List.foldl_cons,List.foldl_nil,a5x]
 simp only [List.cons_append,List.nil_append,he] at R2;simpa using R2
section
variable {P:Program} {T:a0i} (hT:TOk P T) {σ:St} {g:Nat->AV} {o:Oper} {ss:a1C} {h':Option (List Obj)} {H:List Obj} {an:Ann}
 (hg:Less g σ) (hgd : ∀ d,o.dst=some d->g d=σ.get d) (h:a0E Ar.std T an σ.n g H o=some (ss,h'))
include hT hg hgd h
theorem a9p {args:Array Operand} {ts:Array TypeId} (hop:o.op = .call { callee := .builtin .append,args:=args,argTypes:=ts }):a0f P σ o ss h':=by
 have hnd : ∀ c,o.op ≠ .defer c:=by simp [hop]
 simp only [a0E,hop] at h;split at h
 ·rename_i x y t u hargs hts;obtain rfl:args = #[x,y]:=by cases args;simp_all
  obtain rfl:ts = #[t,u]:=by cases ts;simp_all
  split at h
  ·rename_i k0 k1 k ys s d ht hu' hy hdst;have h2 : ∃ l,(g s = .own k l\/(g s = .lim k l/\ys≠[]))/\k0=k/\k1=k/\0<k/\d<σ.n/\(g d).isBox=false /\ ¬ s=d/\(l.length:Int)+ys.length<4294967296/\ss=[(s,.d (.list k l)),(d,.own k (l++ys))]/\h'=none:=by
    split at h
    ·rename_i k' l hgs;split at h
     ·rename_i hc;simp [Ar.std] at hc;obtain ⟨⟨⟨⟨⟨⟨⟨rfl,rfl⟩,rfl⟩,hpos⟩,hlt⟩,hbx⟩,hsd⟩,hfits⟩:=hc;simp [Ar.std] at h;exact ⟨l,.inl hgs,rfl,rfl,hpos,hlt,hbx,hsd,hfits,h.1.symm,h.2.symm⟩
     simp at h
    ·rename_i k' l hgs;split at h
     ·rename_i hc;simp [Ar.std] at hc;obtain ⟨⟨⟨⟨⟨⟨⟨⟨hcons,rfl⟩,rfl⟩,rfl⟩,hpos⟩,hlt⟩,hbx⟩,hsd⟩,hfits⟩:=hc;simp [Ar.std] at h;exact ⟨l,.inr ⟨hgs,by rintro rfl;cases hcons⟩,rfl,rfl,hpos,hlt,hbx,hsd,hfits,h.1.symm,h.2.symm⟩
     simp at h
    simp at h
   obtain ⟨l,hgs,rfl,rfl,hpos,hlt,hbx,hsd,hfits,rfl,rfl⟩:=h2;refine a3a (z:=true) hT hg hgd hop ht hu' (fun R=>a3D hg hy R) hdst ?_ (fun h=>by cases h) hpos hlt hbx hsd hfits;rcases hgs with hgs | ⟨hgs,hne⟩
   ·have h9:=hg.eq hgs (by simp);exact .inl h9
   exact .inr ⟨hg.eq hgs (by simp),hne,rfl⟩
  simp at h
 simp at h
end
set_option linter.unusedVariables false
theorem a1k : ∀ {ks:List CK} {xs:List D},a1i ks xs=true->xs.length=ks.length
 | [],[],_=>rfl
 | [],_::_,h=>by simp [a1i] at h
 | _::_,[],h=>by simp [a1i] at h
 | k::ks,x::xs,h=>by
   simp only [a1i,zp4] at h;simp [a1k h.2]
theorem a1F : ∀ {ks ks':List CK} {xs:List D},a1i (ks++ks') xs=true->a1i ks (xs.take ks.length)=true/\a1i ks' (xs.drop ks.length)=true
 | [],ks',xs,h=>⟨by simp [a1i],by simpa using h⟩
 | k::ks,ks',[],h=>by simp [a1i] at h
 | k::ks,ks',x::xs,h=>by
   simp only [List.cons_append,a1i,zp4] at h;obtain ⟨h1,h2⟩:=a1F h.2;simp only [List.length_cons,List.take_succ_cons,List.drop_succ_cons,a1i,zp4];exact ⟨⟨h.1,h1⟩,h2⟩
theorem b0m {K:Addr->Option Value} {k:CK} {x:D} {v:Value} (hf:k.fits x=true) (h:RepD K x v):v=x.sval:=by
 cases k <;> cases x <;> simp [CK.fits] at hf <;> cases h <;> rfl
theorem b0n {K:Addr->Option Value} : ∀ {ks:List CK} {xs:List D} {vs:List Value},a1i ks xs=true->vs.length=xs.length->(∀ (i:Nat) (hi:i<xs.length),RepD K xs[i] (vs.getD i Go.undef))->vs=xs.map D.sval
 | [],[],[],_,_,_=>rfl
 | k::ks,x::xs,[],_,hl,_=>by simp at hl
 | k::ks,x::xs,v::vs,h,hl,hr=>by
   simp only [a1i,zp4] at h;have h0:=hr 0 (by simp);simp only [List.getElem_cons_zero,List.getD_cons_zero] at h0;rw [b0m h.1 h0,b0n (K:=K) (ks:=ks) (xs:=xs) (vs:=vs) h.2 (by simpa using hl) (fun i hi=>by
    have:=hr (i+1) (by simp;omega);simpa using this)]
   rfl
 | [],_::_,_,h,_,_=>by simp [a1i] at h
 | _::_,[],_,h,_,_=>by simp [a1i] at h
section
variable {P:Program} {T:a0i} (hT:TOk P T)
include hT
theorem a1R {n:Nat} {t:TypeId} {ks:List CK} (h:a6o T n t=some ks) : ∃ m td,n=m+1/\T t=some td/\ksU (a6o T m) td.u=some ks/\ks.length=td.size:=by
 cases n with
 | zero=>simp [a6o] at h
 | succ m =>
   simp only [a6o] at h;split at h
   ·rename_i td ht;split at h
    ·rename_i ks' hk;split at h
     ·rename_i hl;cases h;exact ⟨m,td,rfl,ht,hk,hl⟩
     cases h
    cases h
   cases h
theorem a4A {n:Nat} {t:TypeId} {ks:List CK} (h:a6o T n t=some ks) {td:TD} (ht:T t=some td) {xs:List D} {off:Nat} (hoff:off+ks.length<=xs.length) (w:World) :
  (part t (xs.map D.sval).toArray off).run P w = .ok (mkV td.isAgg ((xs.drop off).take ks.length)) w:=by
 obtain ⟨m,td',rfl,ht',hk,hl⟩:=a1R hT h;rw [ht] at ht';cases ht';unfold part;simp only [Sem.run_bind,hT.isAgg ht,Result.andThen_ok];by_cases ha:td.isAgg=true
 ·simp only [ha,if_true,Sem.run_bind,hT.size ht,Result.andThen_ok,Sem.run_pure,mkV];congr 2;apply Array.ext';simp [Array.toList_extract,List.extract,hl]
 simp only [ha,Bool.false_eq_true,if_false,mkV];have h1:ks.length=1:=by
  obtain ⟨sz,u,z⟩:=td;cases u <;> simp [ksU] at hk <;> first | (subst hk;rfl) | (simp [TD.isAgg] at ha)
 rw [h1];have hlt:off<xs.length:=by omega
 have e:(xs.drop off).take 1=[xs[off]]:=by
  rw [List.take_one,List.head?_drop,zp1 hlt];rfl
 simp [e,hlt]
theorem b1U : ∀ {n:Nat} {t:TypeId} {ks:List CK},a6o T n t=some ks -> ∀ d,n<=d->P.eqGuardType d t=false:=by
 intro n
 induction n with
 | zero=>intro t ks h;simp [a6o] at h
 | succ n ih =>
   intro t ks h d hd;obtain ⟨m,td,e,ht,hk,hl⟩:=a1R hT h;obtain rfl:m=n:=by omega
   cases d with
   | zero=>omega
   | succ d =>
     obtain ⟨de,hde,hu⟩:=hT.under ht;unfold Program.eqGuardType;rw [hde];obtain ⟨sz,u,z⟩:=td;cases u <;> cases de <;> simp [uOk] at hu <;> simp [ksU] at hk <;> simp only
     ·rename_i m' e' n' e'';obtain ⟨rfl,rfl⟩:=hu;split at hk
      ·rename_i ks' hks';exact ih hks' d (by omega)
      cases hk
     rename_i fs fields;rw [Array.any_eq_false];intro i hi;have key : ∀ (l:List (TypeId×Nat)) (o:Nat) (ks:List CK),b5f (a6o T m) o l=some ks -> ∀ p∈l,P.eqGuardType d p.1=false:=by
      intro l
      induction l with
      | nil=>intro o ks _ p hp;simp at hp
      | cons q l ihl =>
        intro o ks h p hp;obtain ⟨t',off⟩:=q;simp only [b5f] at h;split at h
        ·split at h
         ·rename_i ks1 h1;split at h
          ·rename_i ks2 h2;rcases List.mem_cons.1 hp with rfl | hp
           ·exact ih h1 d (by omega)
           exact ihl _ _ h2 p hp
          cases h
         cases h
        cases h
     have:=key fs 0 ks hk (fields[i].type,fields[i].offset) (by rw [<-hu];exact List.mem_map.2 ⟨fields[i],Array.mem_toList_iff.2 (Array.getElem_mem hi),rfl⟩);simp [this]
omit hT in
theorem a5E (w:World) (d:Nat) (t:TypeId) (a b:ByteArray) (h:P.underlying t=some .string):(Op.equalIn (d+1) t (.string a) (.string b)).run P w = .ok (a == b) w:=by
 simp [Op.equalIn,run_underlying h]
theorem b1V : ∀ {n:Nat} {t:TypeId} {ks:List CK} {td:TD},a6o T n t=some ks->T t=some td -> ∀ {xs ys:List D},a1i ks xs=true->a1i ks ys=true -> ∀ (d:Nat),n<=d -> ∀ w:World,
  ∃ r:Bool,(Op.equalIn d t (mkV td.isAgg xs) (mkV td.isAgg ys)).run P w = .ok r w/\(r=true↔xs=ys):=by
 intro n
 induction n with
 | zero=>intro t ks td h;simp [a6o] at h
 | succ n ih =>
   intro t ks td h ht xs ys hx hy d hd w;obtain ⟨m,td',e,ht',hk,hl⟩:=a1R hT h;rw [ht] at ht';cases ht';obtain rfl:m=n:=by omega
   cases d with
   | zero=>omega
   | succ d =>
     obtain ⟨de,hde,hu⟩:=hT.under ht;obtain ⟨de',hde',hek⟩:=hT.eqKnown ht;rw [hde] at hde';cases hde';have hmd:m<=d:=by omega
     have hxl:=a1k hx;have hyl:=a1k hy;obtain ⟨sz,u,z⟩:=td;cases u <;> cases de <;> simp [uOk] at hu <;> simp only [ksU] at hk <;> (try (cases hk;done))
     ·
      rename_i m' e' n' e'';obtain ⟨rfl,rfl⟩:=hu;split at hk
      ·rename_i ks1 hks1;cases hk;obtain ⟨m2,tde,_,hte,_,hle⟩:=a1R hT hks1;obtain ⟨ie,dde,hie,hdde,hisz,_⟩:=hT.info hte;have hce:P.cellsOf e'=ks1.length:=by rw [hle];simp [Program.cellsOf,hie,hisz]
       simp only [mkV,TD.isAgg,if_true];rw [run_equalIn_array w d _ _ hde hie,hce];have hxl':xs.length=m'*ks1.length:=by rw [hxl];simp [List.length_flatten]
       have hyl':ys.length=m'*ks1.length:=by rw [hyl];simp [List.length_flatten]
       have key : ∀ (q j:Nat),j+q=m'->a1i (List.replicate q ks1).flatten (xs.drop (j*ks1.length))=true->a1i (List.replicate q ks1).flatten (ys.drop (j*ks1.length))=true ->
         ∃ r:Bool,(Op.eqItems d e' ks1.length (xs.map D.sval).toArray (ys.map D.sval).toArray (List.range' j q)).run P w = .ok r w/\(r=true↔xs.drop (j*ks1.length)=ys.drop (j*ks1.length)):=by
        intro q
        induction q with
        | zero =>
          intro j hj _ _;refine ⟨true,by simp [Op.eqItems],?_⟩;obtain rfl:j=m':=by omega
          rw [List.drop_eq_nil_of_le (by omega:xs.length<=_),List.drop_eq_nil_of_le (by omega:ys.length<=_)];simp
        | succ q ihq =>
          intro j hj h1 h2;simp only [List.replicate_succ,List.flatten_cons] at h1 h2;obtain ⟨a1,a2⟩:=a1F h1;obtain ⟨b1,b2⟩:=a1F h2;have hjm:j*ks1.length+ks1.length<=m'*ks1.length:=by rw [<-Nat.succ_mul];exact Nat.mul_le_mul_right _ (by omega)
          obtain ⟨r,hr,hiff⟩:=ih hks1 hte a1 b1 d hmd w;rw [List.drop_drop,<-Nat.succ_mul] at a2 b2;obtain ⟨r',hr',hiff'⟩:=ihq (j+1) (by omega) a2 b2;simp only [List.range'_succ,Op.eqItems,Sem.run_bind,a4A hT hks1 hte (xs:=xs) (off:=j*ks1.length) (by omega),a4A hT hks1 hte (xs:=ys) (off:=j*ks1.length) (by omega),Result.andThen_ok,hr];have split:xs.drop (j*ks1.length)=ys.drop (j*ks1.length)↔((xs.drop (j*ks1.length)).take ks1.length=(ys.drop (j*ks1.length)).take ks1.length/\xs.drop ((j+1)*ks1.length)=ys.drop ((j+1)*ks1.length)):=by
           rw [Nat.succ_mul,<-List.drop_drop,<-List.drop_drop];constructor
           ·intro e;rw [e];exact ⟨rfl,rfl⟩
           rintro ⟨e1,e2⟩;rw [<-List.take_append_drop ks1.length (xs.drop (j*ks1.length)),<-List.take_append_drop ks1.length (ys.drop (j*ks1.length)),e1,e2]
          rw [split];cases r
          ·exact ⟨false,by simp,by simp;intro e;exact absurd (hiff.2 e) (by simp)⟩
          refine ⟨r',by simpa using hr',?_⟩;rw [hiff',<-hiff];simp
       have:=key m' 0 (by omega) (by simpa using hx) (by simpa using hy);simpa [List.range_eq_range'] using this
      cases hk
     ·
      rename_i fs fields;simp only [eqKnown,zp4,Bool.not_eq_true',decide_eq_true_eq] at hek;obtain ⟨_,hst,hnames⟩:=hek;simp only [mkV,TD.isAgg,if_true];have hfo:P.fieldsOf t=fields:=by simp [Program.fieldsOf,hde]
      rw [run_equalIn_struct w d t _ _ (by rw [hfo];exact hde) hst,hfo];have key : ∀ (L:List Field) (l:List (TypeId×Nat)) (o:Nat) (ks:List CK),L.map (fun f=>(f.type,f.offset))=l->(∀ f∈L,f.name ≠ "_")->b5f (a6o T m) o l=some ks ->
        a1i ks (xs.drop o)=true->a1i ks (ys.drop o)=true->(o<=xs.length)->(o<=ys.length) ->
        ∃ r:Bool,(Op.eqFields d (xs.map D.sval).toArray (ys.map D.sval).toArray L).run P w = .ok r w/\(r=true↔xs.drop o=ys.drop o):=by
       intro L
       induction L with
       | nil =>
         intro l o ks he _ hks h1 h2 _ _;subst he;simp only [List.map_nil,b5f,zp3] at hks;subst hks;refine ⟨true,by simp [Op.eqFields],?_⟩;have e1:=a1k h1;have e2:=a1k h2;rw [List.length_eq_zero_iff.1 e1,List.length_eq_zero_iff.1 e2];simp
       | cons f L ihL =>
         intro l o ks he hn hks h1 h2 ho1 ho2;subst he;simp only [List.map_cons,b5f] at hks;split at hks
         ·rename_i hoff;split at hks
          ·rename_i ks1 hks1;split at hks
           ·rename_i ks2 hks2;cases hks;obtain ⟨a1,a2⟩:=a1F h1;obtain ⟨b1,b2⟩:=a1F h2;obtain ⟨m2,tde,_,hte,_,hle⟩:=a1R hT hks1;have hla:=a1k a1;have hlb:=a1k b1;simp only [List.length_take,List.length_drop] at hla hlb;obtain ⟨r,hr,hiff⟩:=ih hks1 hte a1 b1 d hmd w;rw [List.drop_drop] at a2 b2;obtain ⟨r',hr',hiff'⟩:=ihL _ (o+ks1.length) ks2 rfl (fun f hf=>hn f (by simp [hf])) hks2 a2 b2 (by omega) (by omega);simp only [Op.eqFields,hn f (by simp),ne_eq,not_false_eq_true,if_true,Sem.run_bind,hoff,a4A hT hks1 hte (xs:=xs) (off:=o) (by omega),a4A hT hks1 hte (xs:=ys) (off:=o) (by omega),Result.andThen_ok,hr];have split:xs.drop o=ys.drop o↔((xs.drop o).take ks1.length=(ys.drop o).take ks1.length/\xs.drop (o+ks1.length)=ys.drop (o+ks1.length)):=by
             rw [<-List.drop_drop,<-List.drop_drop];constructor
             ·intro e;rw [e];exact ⟨rfl,rfl⟩
             rintro ⟨e1,e2⟩;rw [<-List.take_append_drop ks1.length (xs.drop o),<-List.take_append_drop ks1.length (ys.drop o),e1,e2]
            rw [split];cases r
            ·exact ⟨false,by simp,by simp;intro e;exact absurd (hiff.2 e) (by simp)⟩
            refine ⟨r',by simpa using hr',?_⟩;rw [hiff',<-hiff];simp
           cases hks
          cases hks
         cases hks
      have:=key fields.toList fs 0 ks hu (fun f hf=>by
       have:=Array.all_eq_true_iff_forall_mem.1 hnames f (Array.mem_toList_iff.1 hf);simpa using this) hk (by simpa using hx) (by simpa using hy) (Nat.zero_le _) (Nat.zero_le _)
      simpa using this
     ·
      rename_i k k';subst hu;cases hk
      match xs,ys,hx,hy with
      | [x],[y],hx,hy =>
        simp only [a1i,Bool.and_true] at hx hy;cases x <;> simp [CK.fits] at hx;cases y <;> simp [CK.fits] at hy;subst hx hy;rename_i a b;refine ⟨a == b,by simp only [mkV,TD.isAgg,Bool.false_eq_true,if_false,D.sval];exact run_equalIn_int w d t _ _ a b hde,by simp⟩
     ·cases hk
      match xs,ys,hx,hy with
      | [x],[y],hx,hy =>
        simp only [a1i,Bool.and_true] at hx hy;cases x <;> simp [CK.fits] at hx;cases y <;> simp [CK.fits] at hy;rename_i a b;refine ⟨a == b,by simp only [mkV,TD.isAgg,Bool.false_eq_true,if_false,D.sval];exact run_equalIn_bool w d t a b hde,by simp⟩
     cases hk
     match xs,ys,hx,hy with
     | [x],[y],hx,hy =>
       simp only [a1i,Bool.and_true] at hx hy;cases x <;> simp [CK.fits] at hx;cases y <;> simp [CK.fits] at hy;rename_i a b;refine ⟨a == b,by simp only [mkV,TD.isAgg,Bool.false_eq_true,if_false,D.sval];simp [Op.equalIn,Go.underlying,hde],by simpa using MapKept.bytes_beq a b⟩
theorem a3U (em:Bool) : ∀ {n:Nat} {t:TypeId} {ks:List CK} {td:TD},a6o T n t=some ks->T t=some td -> ∀ {xs:List D},a1i ks xs=true -> ∀ (d:Nat),n<=d -> ∀ w:World,
  (Instr.checkKey em d t (mkV td.isAgg xs)).run P w = .ok () w:=by
 intro n
 induction n with
 | zero=>intro t ks td h;simp [a6o] at h
 | succ n ih =>
   intro t ks td h ht xs hx d hd w;obtain ⟨m,td',e,ht',hk,hl⟩:=a1R hT h;rw [ht] at ht';cases ht';obtain rfl:m=n:=by omega
   cases d with
   | zero=>omega
   | succ d =>
     obtain ⟨de,hde,hu⟩:=hT.under ht;obtain ⟨de',hde',hek⟩:=hT.eqKnown ht;rw [hde] at hde';cases hde';have hmd:m<=d:=by omega
     have hxl:=a1k hx;obtain ⟨sz,u,z⟩:=td;unfold Instr.checkKey;simp only [Sem.run_bind,run_underlying hde,Result.andThen_ok];cases u <;> cases de <;> simp [uOk] at hu <;> simp only [ksU] at hk <;> (try (cases hk;done))
     ·rename_i m' e' n' e'';obtain ⟨rfl,rfl⟩:=hu;split at hk
      ·rename_i ks1 hks1;cases hk;obtain ⟨m2,tde,_,hte,_,hle⟩:=a1R hT hks1;obtain ⟨ie,dde,hie,hdde,hisz,_⟩:=hT.info hte;have hce:P.cellsOf e'=ks1.length:=by rw [hle];simp [Program.cellsOf,hie,hisz]
       simp only [mkV,TD.isAgg,if_true];have hxl':xs.length=m'*ks1.length:=by rw [hxl];simp [List.length_flatten]
       simp only [Std.Legacy.Range.forIn_eq_forIn_range',Std.Legacy.Range.size,Nat.sub_zero,Nat.add_one_sub_one,Nat.div_one];have key : ∀ (q j:Nat),j+q=m'->a1i (List.replicate q ks1).flatten (xs.drop (j*ks1.length))=true ->
         (forIn (List.range' j q) PUnit.unit fun i _=>do
          Instr.checkKey em d e' (<-part e' (xs.map D.sval).toArray (i*(<-sizeOf e')))
          pure (ForInStep.yield PUnit.unit):Sem PUnit).run P w = .ok () w:=by
        intro q
        induction q with
        | zero=>intro j _ _;simp
        | succ q ihq =>
          intro j hj h1;simp only [List.replicate_succ,List.flatten_cons] at h1;obtain ⟨a1,a2⟩:=a1F h1;have hjm:j*ks1.length+ks1.length<=m'*ks1.length:=by rw [<-Nat.succ_mul];exact Nat.mul_le_mul_right _ (by omega)
          have hr:=ih hks1 hte a1 d hmd w;rw [List.drop_drop,<-Nat.succ_mul] at a2;have:=ihq (j+1) (by omega) a2;simp only [List.range'_succ,List.forIn_cons,Sem.run_bind,hT.size hte,<-hle,a4A hT hks1 hte (xs:=xs) (off:=j*ks1.length) (by omega),Result.andThen_ok,hr,Sem.run_pure];exact this
       have:=key m' 0 (by omega) (by simpa using hx);simpa using this
      cases hk
     ·rename_i fs fields;simp only [eqKnown,zp4,Bool.not_eq_true',decide_eq_true_eq] at hek;obtain ⟨_,hst,hnames⟩:=hek;simp only [mkV,TD.isAgg,if_true];rw [<-Array.forIn_toList];have key : ∀ (L:List Field) (l:List (TypeId×Nat)) (o:Nat) (ks:List CK),L.map (fun f=>(f.type,f.offset))=l->(∀ f∈L,f.name ≠ "_")->b5f (a6o T m) o l=some ks ->
        a1i ks (xs.drop o)=true->(o<=xs.length) ->
        (forIn L PUnit.unit fun f _=>(if f.name ≠ "_" then do
          Instr.checkKey em d f.type (<-part f.type (xs.map D.sval).toArray f.offset)
          pure (ForInStep.yield PUnit.unit) else pure (ForInStep.yield PUnit.unit)):Sem PUnit).run P w = .ok () w:=by
       intro L
       induction L with
       | nil=>intro l o ks he _ hks h1 _;simp
       | cons f L ihL =>
         intro l o ks he hn hks h1 ho1;subst he;simp only [List.map_cons,b5f] at hks;split at hks
         ·rename_i hoff;split at hks
          ·rename_i ks1 hks1;split at hks
           ·rename_i ks2 hks2;cases hks;obtain ⟨a1,a2⟩:=a1F h1;obtain ⟨m2,tde,_,hte,_,hle⟩:=a1R hT hks1;have hla:=a1k a1;simp only [List.length_take,List.length_drop] at hla;have hr:=ih hks1 hte a1 d hmd w;rw [List.drop_drop] at a2;have:=ihL _ (o+ks1.length) ks2 rfl (fun f hf=>hn f (by simp [hf])) hks2 a2 (by omega);simp only [List.forIn_cons,Sem.run_bind,hn f (by simp),ne_eq,not_false_eq_true,if_true,hoff,a4A hT hks1 hte (xs:=xs) (off:=o) (by omega),Result.andThen_ok,hr,Sem.run_pure];exact this
           cases hks
          cases hks
         cases hks
      have:=key fields.toList fs 0 ks hu (fun f hf=>by
       have:=Array.all_eq_true_iff_forall_mem.1 hnames f (Array.mem_toList_iff.1 hf);simpa using this) hk (by simpa using hx) (Nat.zero_le _)
      simpa using this
     all_goals simp
end
open Classical in
theorem a4f (es:List (D×D)) (k v k':D):mget (mput es k v) k'=if k=k' then some v else mget es k':=by
 induction es with
 | nil=>simp [mput,mget]
 | cons p r ih =>
   simp only [mput];by_cases h:p.1=k
   ·rw [if_pos h];simp only [mget,h];by_cases h2:k=k'
    ·rw [if_pos h2,if_pos h2]
    rw [if_neg h2,if_neg h2,if_neg h2]
   rw [if_neg h];simp only [mget];by_cases h2:p.1=k'
   ·rw [if_pos h2];have h3 : ¬ k=k':=fun e=>h (h2.trans e.symm);rw [if_neg h3,if_pos h2]
   rw [if_neg h2,ih,if_neg h2]
theorem a2v {K:Addr->Option Value} {td:TD} {ks:List CK} {d:D} {v:Value} (h:a0F td.isAgg ks d=true) (hr:RepD K d v):v=mkV td.isAgg d.cells:=by
 simp only [a0F,zp4] at h;obtain ⟨h1,h2⟩:=h;cases d with
 | agg l =>
   simp only [D.cells] at h1 ⊢;simp only [mkV,h2,if_true];cases hr with | agg _ vs hs hh _ =>
   have:=b0n (K:=K) (vs:=vs.toList) h1 (by simpa using hs) (fun i hi=>by simpa [List.getD_eq_getElem?_getD,zp5] using hh i hi);congr 1;apply Array.ext';simpa using this
 | _ =>
   simp only [D.cells] at h1 ⊢;have h2':td.isAgg=false:=by simpa using h2
   simp only [mkV,h2',Bool.false_eq_true,if_false]
   match ks,h1 with
   | [k],h1 =>
     simp only [a1i,Bool.and_true] at h1;exact b0m h1 hr
   | [],h1=>simp [a1i] at h1
   | _::_::_,h1=>simp [a1i] at h1
theorem a7c {agg:Bool} {ks:List CK} {a b:D} (ha:a0F agg ks a=true) (hb:a0F agg ks b=true):a.cells=b.cells↔a=b:=by
 constructor
 ·intro e;simp only [a0F,zp4] at ha hb;cases a <;> cases b <;> simp_all [D.cells]
 rintro rfl;rfl
section
variable {P:Program} {T:a0i} (hT:TOk P T) {n:Nat} {kt:TypeId} {ks:List CK} {td:TD} (hk:a6o T n kt=some ks) (htd:T kt=some td) (hn:n<=8)
include hT hk htd hn
theorem a7d {a b:D} (ha:a0F td.isAgg ks a=true) (hb:a0F td.isAgg ks b=true) (w:World) : ∃ r:Bool,(Op.equal kt (mkV td.isAgg a.cells) (mkV td.isAgg b.cells)).run P w = .ok r w/\(r=true↔a=b):=by
 have ha':=ha;have hb':=hb;simp only [a0F,zp4] at ha' hb';obtain ⟨r,h1,h2⟩:=b1V hT hk htd ha'.1 hb'.1 10000 (by omega) w;exact ⟨r,h1,h2.trans (a7c ha hb)⟩
theorem a7e {K:Addr->Option Value} {k:D} (hkk:a0F td.isAgg ks k=true) (w:World) : ∀ {es:List (D×D)} {ms:List MapEntry} (i:Nat),EntRep K td.isAgg ks es ms ->
  ((Instr.findAsking kt (mkV td.isAgg k.cells) ms i).run P w = .ok none w/\mget es k=none /\ ∀ v,mput es k v=es++[(k,v)]) \/
  ∃ j e p,(Instr.findAsking kt (mkV td.isAgg k.cells) ms i).run P w = .ok (some (i+j,e.val)) w/\ms[j]?=some e/\es[j]?=some p/\p.1=k/\mget es k=some p.2 /\ ∀ v,mput es k v=es.set j (k,v):=by
 classical
 intro es ms i h
 induction h generalizing i with
 | nil=>exact .inl ⟨by simp [Instr.findAsking],rfl,fun v=>rfl⟩
 | @cons p m es ms hp h ih =>
   obtain ⟨h1,h2,h3⟩:=hp;obtain ⟨r,hr,hiff⟩:=a7d hT hk htd hn hkk h1 w;by_cases he:p.1=k
   ·have:r=true:=hiff.2 he.symm;subst this;refine .inr ⟨0,m,p,by simp [Instr.findAsking,h2,hr],rfl,rfl,he,by simp [mget,he],fun v=>by simp [mput,he]⟩
   have:r=false:=by
    cases r
    ·rfl
    exact absurd (hiff.1 rfl).symm he
   subst this;rcases ih (i+1) with ⟨k1,k2,k3⟩ | ⟨j,e,q,k1,k2,k3,k4,k5,k6⟩
   ·exact .inl ⟨by simp [Instr.findAsking,h2,hr,k1],by simp [mget,he,k2],fun v=>by simp [mput,he,k3]⟩
   exact .inr ⟨j+1,e,q,by simp [Instr.findAsking,h2,hr,k1];omega,by simpa using k2,by simpa using k3,k4,by simp [mget,he,k5],fun v=>by simp [mput,he,k6]⟩
theorem a4B {K:Addr->Option Value} {k:D} (hkk:a0F td.isAgg ks k=true) (w:World) {es:List (D×D)} {ms:List MapEntry} (h:EntRep K td.isAgg ks es ms) :
  ((Instr.findKey kt (mkV td.isAgg k.cells) ms).run P w = .ok none w/\mget es k=none /\ ∀ v,mput es k v=es++[(k,v)]) \/
  ∃ j e p,(Instr.findKey kt (mkV td.isAgg k.cells) ms).run P w = .ok (some (j,e.val)) w/\ms[j]?=some e/\es[j]?=some p/\p.1=k/\mget es k=some p.2 /\ ∀ v,mput es k v=es.set j (k,v):=by
 have asking:=a7e hT hk htd hn hkk w 0 h;obtain ⟨de,hde,hu⟩:=hT.under htd;obtain ⟨m,td',e,ht',hku,hl⟩:=a1R hT hk;rw [htd] at ht';cases ht'

 have now : ∀ (ms:List MapEntry) (es:List (D×D)) (i:Nat) (r:Option (Nat×Value)),EntRep K td.isAgg ks es ms->Instr.findNow de (mkV td.isAgg k.cells) ms i=some r->(Instr.findAsking kt (mkV td.isAgg k.cells) ms i).run P w = .ok r w:=by
  intro ms es i r h
  induction h generalizing i with
  | nil=>intro hf;simp [Instr.findNow] at hf;subst hf;simp [Instr.findAsking]
  | @cons p m0 es ms hp h ih =>
    obtain ⟨h1,h2,h3⟩:=hp;obtain ⟨r0,hr,hiff⟩:=a7d hT hk htd hn hkk h1 w;intro hf;simp only [Instr.findNow] at hf;have hsame : ∀ b,Instr.sameNow de (mkV td.isAgg k.cells) m0.key=some b->r0=b:=by
     intro b hb;rw [h2] at hb;have heq:(Op.equal kt (mkV td.isAgg k.cells) (mkV td.isAgg p.1.cells)).run P w = .ok b w:=by
      unfold Instr.sameNow at hb;split at hb
      ·rename_i k1 a k2 b' e1 e2;split at hb
       ·rename_i hkk';cases hb;rw [e1,e2,hkk'];exact run_equalIn_int w 9999 kt _ _ _ _ hde
       cases hb
      ·rename_i a b' e1 e2;cases hb;rw [e1,e2];exact a5E w 9999 kt _ _ hde
      ·rename_i a b' e1 e2;cases hb;rw [e1,e2];exact run_equalIn_bool w 9999 kt _ _ hde
      cases hb
     rw [hr] at heq;injection heq
    cases hsn:Instr.sameNow de (mkV td.isAgg k.cells) m0.key with
    | none=>rw [hsn] at hf;cases hf
    | some b =>
      have:=hsame b hsn;subst this;rw [hsn] at hf;cases r0 with
      | true=>simp at hf;subst hf;simp [Instr.findAsking,h2,hr]
      | false=>simp at hf;simp [Instr.findAsking,h2,hr,ih (i+1) hf]
 have hsame:(Instr.findKey kt (mkV td.isAgg k.cells) ms).run P w=(Instr.findAsking kt (mkV td.isAgg k.cells) ms 0).run P w:=by
  unfold Instr.findKey;simp only [Sem.run_bind,run_underlying hde,Result.andThen_ok];split
  ·rename_i r hr;rw [now ms es 0 r h hr];simp
  rfl
 rw [hsame];simpa using asking
end
theorem a2w {g:Nat->AV} {x:Operand} {c:AV} (h:a1M g x=c) (hc:c ≠ .undef) : ∃ s,x = .tmp s/\g s=c:=by
 cases x with
 | tmp s=>exact ⟨s,rfl,h⟩
 | _=>exact absurd h.symm hc
theorem a0z {T:a0i} {g:Nat->AV} {σ:St} {G:Gh} {a:Act} {w:World} (hg:Less g σ) (R:Rel G σ a w) {t:TypeId} {x:Operand} {y:D} (h:opD T g t x=some y):RepD G.K y (a.eval x):=by
 unfold opD at h;split at h
 ·rename_i y' hy;cases h;have:=(a0Y hg R hy .no).1;cases this with | d _ _ _ h=>exact h
 cases h
theorem a5j {P:Program} {T:a0i} (hT:TOk P T) {t:TypeId} {td:TD} (ht:T t=some td) {y:D} (hy:a6p td=some y) {i:TypeInfo} (hi:P.info? t=some i) :
  ∃ z,i.zero=some z/\z.cells.size=td.size/\y.cells.length=td.size/\(∀ (j:Nat) (hj:j<y.cells.length) (K:Addr->Option Value),RepD K y.cells[j] (z.cells.getD j Go.undef)/\(z.cells.getD j Go.undef).oneCell'=true):=by
 obtain ⟨i',d,hi',hd,hsz,hb,hu,z,hz,h1,h2,h3⟩:=hT.info ht;rw [hi] at hi';cases hi';refine ⟨z,hz,h1,?_⟩;have key : ∀ (ds:List D),a0N td.zero=some ds->ds.length=td.size /\ ∀ (j:Nat) (hj:j<ds.length) (K:Addr->Option Value),RepD K ds[j] (z.cells.getD j Go.undef)/\(z.cells.getD j Go.undef).oneCell'=true:=by
  intro ds hds;obtain ⟨k1,k2⟩:=a1w hds;refine ⟨by omega,fun j hj K => ?_⟩;obtain ⟨z1,z2,z3⟩:=a1v (h3 j (by omega));let G:Gh:={ K:=K,O:=fun _=>none,β:=fun _=>0,nh:=0 };exact ⟨k2 j (by omega) hj G default .no _ (z1 G default .no),z3⟩
 unfold a6p at hy;split at hy
 ·rename_i ha;cases hd':a0N td.zero with
  | none=>rw [hd'] at hy;cases hy
  | some ds =>
    rw [hd'] at hy;cases hy;obtain ⟨k1,k2⟩:=key ds hd';exact ⟨k1,k2⟩
 split at hy
 ·rename_i x hd';cases hy;obtain ⟨k1,k2⟩:=key _ hd';have hcells:y.cells=[y]:=by
   have hone:=(k2 0 (by simp) (fun _=>none)).2;have hrep:=(k2 0 (by simp) (fun _=>none)).1;simp only [List.getElem_cons_zero] at hrep;generalize z.cells.getD 0 Go.undef=zz at hone hrep;cases y <;> first | rfl | skip
   cases hrep;simp [Value.oneCell'] at hone
  refine ⟨by rw [hcells];simpa using k1,fun j hj K => ?_⟩;have hj0:j=0:=by rw [hcells] at hj;simpa using hj
  subst hj0;have:=k2 0 (by simp) K;simpa [hcells] using this
 cases hy
theorem b2Z {P:Program} {T:a0i} (hT:TOk P T) {t:TypeId} {td:TD} (ht:T t=some td) {y:D} (hy:a6p td=some y) {i:TypeInfo} (hi:P.info? t=some i) {z:Value} (hz:i.zero=some z) (K:Addr->Option Value):RepD K y z:=by
 obtain ⟨z',hz',hzs,hyl,hr⟩:=a5j hT ht hy hi;rw [hz] at hz';cases hz';have hk:=hT.zeroKind ht hi hz;unfold a6p at hy;cases ha:td.isAgg with
 | true =>
   rw [ha] at hy hk;cases hd:a0N td.zero with
   | none=>rw [hd] at hy;cases hy
   | some ds =>
     rw [hd] at hy;cases hy;cases z <;> simp [b5g] at hk;rename_i vs;refine .agg ds vs (by simp [Value.cells,D.cells] at hzs hyl;omega) (fun j hj=>(hr j hj K).1) (fun v hv => ?_);obtain ⟨j,hj,rfl⟩:=Array.mem_iff_getElem.1 hv;have hj':j<ds.length:=by simp [Value.cells,D.cells] at hzs hyl;omega
     have:=(hr j hj' K).2;simpa [Value.cells,Array.getD,hj] using this
 | false =>
   rw [ha] at hy hk;simp only [Bool.false_eq_true,if_false] at hy;split at hy
   ·rename_i x0 hd;cases hy;have hzc:z.cells = #[z]:=by cases z <;> first | rfl | (simp [b5g] at hk)
    obtain ⟨k1,k2⟩:=a1w hd;obtain ⟨i',d',hi',hd',hsz,hb,hu,zz,hzz,g1,g2,g3⟩:=hT.info ht;rw [hi] at hi';cases hi';rw [hz] at hzz;cases hzz;have h1:0<td.zero.length:=by rw [<-k1];simp
    obtain ⟨z1,z2,z3⟩:=a1v (g3 0 h1);have:=k2 0 h1 (by simp) ({ K:=K,O:=fun _=>none,β:=fun _=>0,nh:=0 }:Gh) default .no _ (z1 _ _ _);simpa [hzc] using this
   cases hy
theorem a1B {G:Gh} {σ:St} {a:Act} {w:World} (R:Rel G σ a w) {i k:Nat} {l l':List D} {cur row:Array Value} {e:TypeId} (hi:σ.heap[i]?=some (.arr k l))
  (hw:w.heap[G.β (.o i)]?=some (.cells cur e (0,0))) (hu:a0k k l') (hsz:(D.flat l').length<=row.size)
  (h1 : ∀ j,j<(D.flat l').length->(row.getD j Go.undef).oneCell'=true) (hh : ∀ (j:Nat) (hj:j<(D.flat l').length),RepD G.K (D.flat l')[j] (row.getD j Go.undef)) :
  Rel G (σ.upd [] (some (σ.heap.set i (.arr k l')))) a (w.setRow (G.β (.o i)) row) /\ ∀ m,Ext m G w G (w.setRow (G.β (.o i)) row):=by
 obtain ⟨vs0,e0,hO,hw0,_,_,_,_⟩:=R.h.objs i _ hi;have hpr:=a2Y (w:=w) hO row;have hil:i<σ.heap.length:=(zp2.1 hi).1;refine ⟨⟨⟨R.h.sane,by simpa [St.upd] using R.h.nh,fun i' ob hob => ?_,a2Z R.h.kept (fun j=>(R.h.disj _ _ _ hO).2 j (Nat.zero_le _)) hO _,fun b ℓ f h => ?_⟩,by simpa [St.upd] using R.size,?_,?_,?_⟩,fun m=>Ext.setRow hO _⟩
 ·simp only [St.upd,Option.getD_some] at hob;by_cases hii:i=i'
  ·subst hii;rw [List.getElem?_set_self hil] at hob;injection hob with hob;subst hob
   exact ⟨row,e,hO,setRow_heap _ _ _ _ _ _ hw,hu,hsz,h1,hh⟩
  rw [List.getElem?_set_ne hii] at hob;exact (R.h.objs i' ob hob).pres R.h.sane (by rw [<-R.h.nh];exact (zp2.1 hob).1) hpr (by simp;exact fun e=>hii e.symm) (by simp)
 ·have:=R.h.disj b ℓ f h;exact ⟨by simpa using this.1,this.2⟩
 ·intro t;exact (R.slots t).pres R.h.sane hpr (by simp) (fun _ _ _=>rfl) (fun t' e' _=>⟨rfl,fun j=>by simp⟩)
 ·intro t r'' off' ht;exact R.places t r'' off' ht
 refine ⟨R.df.1,fun x hx => ?_⟩;obtain ⟨r0,h1,h2,h3⟩:=R.df.2 x hx;exact ⟨r0,h1,h2,by rw [setRow_other _ _ _ _ (by rintro rfl;rw [hO] at h2;cases h2)];exact h3⟩
theorem b0o {k:Nat} (hk:0<k) {l:List D} (hu:a0k k l) {i:Nat} {y v:D} (hy:l[i]?=some y) (hv:v.cells.length=k) :
  a0k k (l.set i v)/\(D.flat (l.set i v)).length=(D.flat l).length /\ ∀ j,(D.flat (l.set i v))[j]?=if i*k<=j/\j<i*k+k then v.cells[j-i*k]? else (D.flat l)[j]?:=by
 have hlt:i<l.length:=(zp2.1 hy).1;have hu':a0k k (l.set i v):=by
  intro x hx;rcases List.mem_or_eq_of_mem_set hx with hx | rfl
  ·exact hu x hx
  exact hv
 have e:(D.flat (l.set i v)).length=(D.flat l).length:=by rw [a0b hu',a0b hu];simp
 refine ⟨hu',e,fun j => ?_⟩;by_cases hj:j<(D.flat l).length
 ·have hfl:=a0b hu;have hq:j%k<k:=Nat.mod_lt _ hk;have hd:j / k<l.length:=by rw [Nat.div_lt_iff_lt_mul hk];omega
  have hjj:j / k*k+j%k=j:=by rw [Nat.mul_comm];exact Nat.div_add_mod _ _
  by_cases hid:i=j / k
  ·subst hid;have h1:=a0H hu' (i:=j / k) (y:=v) (by rw [List.getElem?_set_self hlt]) (j%k) hq;rw [hjj] at h1;rw [h1,if_pos (by constructor <;> omega)];congr 1;omega
  have h1:=a0H hu' (i:=j / k) (y:=l[j / k]) (by rw [List.getElem?_set_ne hid,zp1 hd]) (j%k) hq;have h2:=a0H hu (i:=j / k) (y:=l[j / k]) (zp1 hd) (j%k) hq;rw [hjj] at h1 h2;rw [h1,<-h2,if_neg];rintro ⟨c1,c2⟩;have:i=j / k:=by
   apply Nat.le_antisymm
   ·rw [Nat.le_div_iff_mul_le hk];exact c1
   have:j<(i+1)*k:=by rw [Nat.succ_mul];exact c2
   have:=(Nat.div_lt_iff_lt_mul hk).2 this;omega
  exact hid this
 have hfl:=a0b hu;have:(i+1)*k<=l.length*k:=Nat.mul_le_mul_right k (by omega);rw [Nat.succ_mul] at this;rw [if_neg (by omega),List.getElem?_eq_none (by omega:(D.flat (l.set i v)).length<=j),List.getElem?_eq_none (by omega:(D.flat l).length<=j)]
theorem eIJ (k:Nat) {i:Int} (j:Nat) (hi:0<=i):i.toNat*k+j=(eI Ar.std k i j).toNat*k+eJ k j/\0<=eI Ar.std k i j:=by
 unfold eI eJ;by_cases hk:k=1
 ·subst hk;by_cases hj:j=0
  ·subst hj;simp [hi]
  simp [hj,Ar.std];omega
 simp [hk,hi]
theorem a5k : ∀ {l:List D},(∀ x∈l,x.isOne=true)->D.flat l=l
 | [],_=>rfl
 | x::r,h=>by
   have h1:=h x (by simp);have:x.cells=[x]:=by cases x <;> first | rfl | (simp [D.isOne] at h1)
   have ih:=a5k (l:=r) (fun y hy=>h y (by simp [hy]));simp only [D.flat,List.flatMap_cons,this] at ih ⊢;rw [ih];rfl
theorem a2e {K:Addr->Option Value} {d:D} {v:Value} (h:RepD K d v) (h1:v.oneCell'=true):d.isOne=true:=by
 cases h <;> first | rfl | (simp [Value.oneCell'] at h1)
theorem a1G {x:D} (h:x.isOne=true):x.cells=[x]:=by cases x <;> first | rfl | (simp [D.isOne] at h)
section
variable {P:Program} {T:a0i} (hT:TOk P T) {σ:St} {g:Nat->AV} {o:Oper} {ss:a1C} {h':Option (List Obj)} {H:List Obj}
 (hg:Less g σ) (hgd : ∀ d,o.dst=some d->g d=σ.get d) (hH : ∀ (i:Nat) (ob:Obj),H[i]?=some ob->σ.heap[i]?=some ob)
theorem a1r {G:Gh} {a:Act} {w:World} (hg:Less g σ) (R:Rel G σ a w) {x:Operand} {i k:Nat} {lo n:Int} (h:a1M g x = .mref i k lo n) :
  ∃ b off cap,a.eval x = .slice (some ⟨b,off,none⟩) n.toNat cap/\i<G.nh/\0<=lo/\0<=n/\n.toNat<=cap/\(0<n->b=G.β (.o i)/\off=lo.toNat*k):=by
 obtain ⟨s,rfl,hs⟩:=a2w h (by simp);have:=hg.rep R s;rw [hs] at this;generalize hv:a.tmps.getD s Go.undef=v at this;cases this with | mref _ _ _ _ _ b off cap h1 h2 h3 h4 h5=>exact ⟨b,off,cap,hv,h1,h2,h3,h4,h5⟩
theorem eptr_val {G:Gh} {a:Act} {w:World} (hg:Less g σ) (R:Rel G σ a w) {x:Operand} {i k j:Nat} {z:Int} (h:a1M g x = .eptr i k z j) :
  a.eval x = .pointer (some ⟨G.β (.o i),z.toNat*k+j,none⟩)/\i<G.nh/\0<=z:=by
 obtain ⟨s,rfl,hs⟩:=a2w h (by simp);have:=hg.rep R s;rw [hs] at this;generalize hv:a.tmps.getD s Go.undef=v at this;cases this with | eptr _ _ _ _ _ h1 h2=>exact ⟨hv,h1,h2⟩
theorem b1W {g:Nat->AV} {H:List Obj} {x:Operand} {i k:Nat} {lo n:Int} (h:a5d g H x = .mref i k lo n):a1M g x = .mref i k lo n:=by
 unfold a5d at h;split at h
 ·split at h <;> cases h
 exact h
theorem a3u {G:Gh} {a:Act} {w:World} (hg:Less g σ) (R:Rel G σ a w) {x:Operand} {i k j:Nat} {z:Int} (h:a5d g H x = .eptr i k z j) :
  a.eval x = .pointer (some ⟨G.β (.o i),z.toNat*k+j,none⟩)/\i<G.nh/\0<=z:=by
 unfold a5d at h;split at h
 ·rename_i b off hb;split at h
  ·cases h;obtain ⟨s,rfl,hs⟩:=a2w hb (by simp);have:=hg.rep R s;rw [hs] at this;generalize hv:a.tmps.getD s Go.undef=v at this;cases this with | ptr _ _ _ h1=>exact ⟨by show a.tmps.getD s Go.undef=_;rw [hv];simp,h1,Int.le_refl _⟩
  cases h
 exact eptr_val hg R h
include hT hg hgd hH
theorem a8j {t:TypeId} {x i:Operand} (hop:o.op = .indexAddr t x i) (h:a0L Ar.std T σ.n g H o=some (some (ss,h'))):a0f P σ o ss h':=by
 simp only [a0L,hop,a3r,a4b] at h;split at h
 ·rename_i a0 k lo ln hx;simp only [zp3] at h;split at h
  ·rename_i sz e zc kz z ht hi;split at h
   ·rename_i td hte;split at h
    ·rename_i hb;simp [Ar.std] at hb;obtain ⟨⟨hz0,hz1⟩,rfl⟩:=hb;refine a0c hgd h (by simp [hop]) (AV.free_place rfl) ?_;intro G a w R;have h1:=(a0Y hg R hi .no).1;cases h1 with | d _ _ _ h1 =>
     generalize hei:a.eval i=vi at h1;cases h1;obtain ⟨b,off,cap,hv,hnh,hlo,hn,hcap,hbo⟩:=a1r hg R (b1W hx);obtain ⟨rfl,rfl⟩:=hbo (by omega);have hzz:z<(ln.toNat:Int):=by omega
     have hmx : ¬ max ln 0<=z:=by omega
     refine ⟨.pointer (some ⟨G.β (.o a0),lo.toNat*td.size+z.toNat*td.size,none⟩),?_,fun d => ?_⟩
     ·simp [execOp,hop,hv,hei,Instr.indexAt,asIntOf,Go.underlying,hT.slice ht,hz0,hzz,hmx,hT.size hte,Addr.add_none]
     have:=RepV.eptr (G:=G) (w:=w) (.s d) a0 td.size (lo+z) 0 hnh (by omega);have e:(lo+z).toNat*td.size+0=lo.toNat*td.size+z.toNat*td.size:=by
      rw [Nat.add_zero,<-Nat.add_mul];congr 1;omega
     rw [e] at this;exact this
    cases h
   cases h
  cases h
 ·rename_i a0 k i0 j0 hx;simp only [zp3] at h;split at h
  ·rename_i sz mm e zc kz z ht hi;split at h
   ·rename_i td hte;split at h
    ·rename_i hb;simp [Ar.std] at hb;obtain ⟨⟨hz0,hz1⟩,rfl⟩:=hb;refine a0c hgd h (by simp [hop]) (AV.free_place (by cases i <;> rfl)) ?_;intro G a w R;have h1:=(a0Y hg R hi .no).1;cases h1 with | d _ _ _ h1 =>
     generalize hei:a.eval i=vi at h1;cases h1;obtain ⟨hv,hnh,hi0⟩:=a3u hg R hx;refine ⟨.pointer (some ⟨G.β (.o a0),i0.toNat*1+j0+z.toNat*td.size,none⟩),?_,fun d => ?_⟩
     ·simp [execOp,hop,hv,hei,Instr.indexAt,asIntOf,Go.underlying,hT.array ht,Instr.sureAddr,hz0,hz1,hT.size hte,Addr.add_none]
     have hdyn:RepV G w (.s d) (.eptr a0 1 (Ar.std.zadd i0 (Ar.std.zmul z td.size)) j0) (.pointer (some ⟨G.β (.o a0),i0.toNat*1+j0+z.toNat*td.size,none⟩)):=by
      have hzs:0<=z*(td.size:Int):=Int.mul_nonneg hz0 (by omega);have:=RepV.eptr (G:=G) (w:=w) (.s d) a0 1 (i0+z*td.size) j0 hnh (by omega);have e:(i0+z*(td.size:Int)).toNat*1+j0=i0.toNat*1+j0+z.toNat*td.size:=by
       have:(z*(td.size:Int)).toNat=z.toNat*td.size:=by
        rw [Int.toNat_mul hz0 (by omega)];rfl
       omega
      rw [e] at this;exact this
     cases i with
     | const _ =>
       have:=RepV.eptr (G:=G) (w:=w) (.s d) a0 1 i0 (j0+z.toNat*td.size) hnh hi0;rw [<-Nat.add_assoc] at this;exact this
     | _=>exact hdyn
    cases h
   cases h
  cases h
 cases h
theorem a8k {t:TypeId} {x:Operand} {f:Nat} (hop:o.op = .fieldAddr t x f) (h:a0L Ar.std T σ.n g H o=some (some (ss,h'))):a0f P σ o ss h':=by
 simp only [a0L,hop] at h;split at h
 ·rename_i a0 k i j hx;simp only [zp3] at h;split at h
  ·rename_i ft off sz hf;split at h
   ·cases h
   rename_i hsz;obtain ⟨s,fs,z,td,ht,hfs,hft,rfl⟩:=a2D hf;obtain ⟨fields,hu,hmap⟩:=hT.struct ht;have hfield : ∃ fld,fields[f]?=some fld/\fld.type=ft/\fld.offset=off:=by
    rw [<-hmap] at hfs;simp at hfs;obtain ⟨fld,h1,h2,h3⟩:=hfs;exact ⟨fld,h1,h2,h3⟩
   obtain ⟨fld,h1,rfl,rfl⟩:=hfield;refine a0c hgd h (by simp [hop]) (AV.free_place rfl) ?_;intro G a w R;obtain ⟨hv,hnh,hi⟩:=eptr_val hg R hx;refine ⟨.pointer (some ⟨G.β (.o a0),i.toNat*k+j+fld.offset,none⟩),?_,fun d => ?_⟩
   ·simp [execOp,hop,hv,Instr.fieldAt,Go.underlying,hu,h1,Instr.sureAddr,fieldPlace,hT.size hft,hsz,Addr.add_none]
   have:=RepV.eptr (G:=G) (w:=w) (.s d) a0 k i (j+fld.offset) hnh hi
   rwa [<-Nat.add_assoc] at this
  cases h
 cases h
theorem b7V {t:TypeId} {x:Operand} (hop:o.op = .load t x) (h:a0L Ar.std T σ.n g H o=some (some (ss,h'))):a0f P σ o ss h':=by
 simp only [a0L,hop] at h;split at h
 ·rename_i a0 k i j hx;simp only [zp3] at h;split at h
  ·rename_i td k' l ht hHi;split at h
   ·rename_i hkk;subst hkk;split at h
    ·rename_i hag;simp only [zp4,decide_eq_true_eq] at hag;obtain ⟨rfl,hagg⟩:=hag;split at h
     ·rename_i hb;rw [zp4] at hb;obtain ⟨hb1,hb2⟩:=hb;have hb2 : ∀ x∈Ar.std.sub l (Ar.std.zadd i j) (Ar.std.zadd (Ar.std.zadd i j) td.size),x.isOne=true:=List.all_eq_true.1 hb2;simp only [Ar.std,decide_eq_true_eq] at hb1;have hσ:=hH _ _ hHi;refine a0c hgd h (by simp [hop]) (AV.free_place rfl) ?_;intro G a w R;obtain ⟨hv,hnh,hi⟩:=a3u hg R hx;obtain ⟨vs,e,hO,hw,hu,hs,h1,hh⟩:=R.h.objs a0 _ hσ;have hfl:=a0b hu;let p:=i.toNat+j;have hp:(i+(j:Int)).toNat=p:=by omega
      have hpn:(i+(j:Int)+(td.size:Int)).toNat-p=td.size:=by omega
      have hle:p+td.size<=l.length:=by omega
      let sub:=(l.drop p).take td.size;have hsub:Ar.std.sub l (Ar.std.zadd i j) (Ar.std.zadd (Ar.std.zadd i j) td.size)=sub:=by
       show ((l.drop (i+(j:Int)).toNat).take ((i+(j:Int)+(td.size:Int)).toNat-(i+(j:Int)).toNat))=sub;rw [hp,hpn]
      rw [hsub] at hb2 ⊢;have hsl:sub.length=td.size:=by simp [sub];omega
      have each : ∀ (q:Nat) (hq:q<sub.length),RepD G.K sub[q] (vs.getD (p+q) Go.undef)/\(vs.getD (p+q) Go.undef).oneCell'=true:=by
       intro q hq;have hpq:p+q<l.length:=by omega
       have hge:l[p+q]?=some sub[q]:=by
        rw [zp1 hpq];simp [sub]
       have hfg:=a0H hu hge 0 (by omega);rw [a1G (hb2 _ (zp6 hq))] at hfg;simp only [Nat.mul_one,Nat.add_zero,List.getElem?_cons_zero] at hfg;have hj:p+q<(D.flat l).length:=by omega
       rw [zp1 hj] at hfg;have:=hh _ hj;rw [Option.some.inj hfg] at this;exact ⟨this,h1 _ hj⟩
      obtain ⟨av,hav⟩ : ∃ av,a0O td (sub.map AV.d) 0=some av:=⟨_,by unfold a0O cut;rw [if_pos (by simp [hsl])];simp only [hagg,if_true];rfl⟩;have hld:=a1W hT ht (G:=G) (w:=w) (b:=G.β (.o a0)) (o:=p) (off:=0) (cs:=sub.map .d) (vs:=fun q=>vs.getD (p+q) Go.undef)
       (fun q hq=>by simp at hq;exact a0V hw (by omega)) (fun q hq=>⟨.no,by simp at hq;simpa using RepV.d (G:=G) (w:=w) .no _ _ (each q (by simpa using hq)).1⟩)
       (a1A (K:=G.K) (fun q hq=>(each q hq).2) (fun q hq=>(each q hq).1)) hav
      have hav':av = .d (.agg sub):=by
       unfold a0O cut at hav;rw [if_pos (by simp [hsl])] at hav;simp only [hagg,if_true,List.drop_zero] at hav;rw [List.take_of_length_le (by simp [hsl])] at hav;injection hav with hav
       rw [<-hav];have:a0N (sub.map AV.d)=some sub:=by
        clear hav hld each hsub hsl hb2;generalize sub=s
        induction s with
        | nil=>rfl
        | cons x r ih=>simp [a0N,ih]
       simp [a5w,this]
      obtain ⟨v,hr,_,hrep⟩:=hld;rw [hav'] at hrep;refine ⟨v,?_,fun d=>hrep _⟩;rw [show p+0=i.toNat+j by simp [p]] at hr;rw [Nat.mul_one] at hv;simp [execOp,hop,hv,Instr.loadAt,Instr.sureAddr,hr]
     cases h
    split at h
    ·rename_i y hy;simp only [Ar.std] at hy;obtain ⟨av,hav,hp⟩:=a1o h;have hσ:=hH _ _ hHi;obtain ⟨i1,hi1⟩ : ∃ i1,eI Ar.std k' i j=i1:=⟨_,rfl⟩;obtain ⟨j1,hj1⟩ : ∃ j1,eJ k' j=j1:=⟨_,rfl⟩;have hij:=fun hi=>eIJ k' (i:=i) j hi;rw [hi1,hj1] at hij;replace hy:l[i1.toNat]?=some y:=by rw [<-hi1];exact hy
     rw [hj1] at hav;have run : ∀ G a w,Rel G σ a w -> ∃ v,(loadVar t ⟨G.β (.o a0),i1.toNat*k'+j1,none⟩).run P w = .ok v w/\av.free=true /\ ∀ ℓ,RepV G w ℓ av v:=by
      generalize i1=i,j1=j at *;intro G a w R;obtain ⟨vs,e,hO,hw,hu,hs,h1,hh⟩:=R.h.objs a0 _ hσ;have hyl:y.cells.length=k':=hu y (List.mem_of_getElem? hy);have hfl:=a0b hu;have hlt:i.toNat<l.length:=(zp2.1 hy).1;have hmul:i.toNat*k'+k'<=l.length*k':=by rw [<-Nat.succ_mul];exact Nat.mul_le_mul_right _ hlt
      have hcell : ∀ (q:Nat) (hq:q<y.cells.length),RepD G.K y.cells[q] (vs.getD (i.toNat*k'+q) Go.undef)/\(vs.getD (i.toNat*k'+q) Go.undef).oneCell'=true:=by
       intro q hq;have hfg:=a0H hu hy q (by omega);have hj:i.toNat*k'+q<(D.flat l).length:=by omega
       rw [zp1 hj,zp1 hq] at hfg;have:=hh _ hj;rw [Option.some.inj hfg] at this;exact ⟨this,h1 _ hj⟩
      exact a1W hT ht (G:=G) (w:=w) (b:=G.β (.o a0)) (o:=i.toNat*k') (off:=j) (cs:=y.cells.map .d) (vs:=fun q=>vs.getD (i.toNat*k'+q) Go.undef)
       (fun q hq=>by simp at hq;exact a0V hw (by omega)) (fun q hq=>⟨.no,by simp at hq;simpa using RepV.d (G:=G) (w:=w) .no _ _ (hcell q hq).1⟩)
       (a1A (K:=G.K) (fun q hq=>(hcell q hq).2) (fun q hq=>(hcell q hq).1)) hav
     intro r n m G a w Q next hm R hn
     obtain ⟨_,_,hfree,_⟩:=run G a w R;refine a0c hgd hp (by simp [hop]) (AV.free_place (AV.free_isLocal hfree)) ?_ r n m G a w Q next hm R hn
     intro G a w R;obtain ⟨hv,hnh,hi⟩:=a3u hg R hx;obtain ⟨v,hr,_,hrep⟩:=run G a w R;rw [(hij hi).1] at hv;exact ⟨v,by simp [execOp,hop,hv,Instr.loadAt,Instr.sureAddr,hr],fun d=>hrep _⟩
    cases h
   cases h
  cases h
 cases h
theorem b5l {t:TypeId} {x:Operand} {lo hi mx:Option Operand} (hop:o.op = .slice t x lo hi mx) (h:a0L Ar.std T σ.n g H o=some (some (ss,h'))):a0f P σ o ss h':=by
 simp only [a0L,hop] at h;split at h
 ·rename_i a0 k l0 ln hx;simp only [zp3] at h;split at h
  ·rename_i es zh zl hes hbh hbl;obtain ⟨sz,e,z,td,ht,hte,rfl⟩:=a0l hes;split at h
   ·rename_i hc;simp [Ar.std] at hc;obtain ⟨⟨⟨⟨hk,hz0⟩,hz1⟩,hz2⟩,hmx⟩:=hc;subst hmx hk;refine a0c hgd h (by simp [hop]) (AV.free_place rfl) ?_;intro G a w R;obtain ⟨b,off,cap,hv,hnh,hlo,hn,hcap,hbo⟩:=a1r hg R hx;obtain ⟨nl,rfl⟩:=zp9 hz0;obtain ⟨nh,rfl⟩:=zp9 (Int.le_trans hz0 hz1);have h1:nl<=nh:=by omega
    have h2:nh<=cap:=by omega
    have hrun:=a0J (P:=P) (w:=w) (len:=ln.toNat) (cap:=cap) (nl:=nl) (nh:=nh) (m:=cap) (low:=lo.map a.eval) (high:=hi.map a.eval) (max:=none)
     (by cases lo with
      | none=>simp [bound] at hbl;exact .inl ⟨rfl,by omega⟩
      | some y=>obtain ⟨kk,e⟩:=a0D hg hbl R;exact .inr ⟨kk,by simp [e]⟩)
     (by cases hi with
      | none=>simp [bound] at hbh;exact .inl ⟨rfl,by omega⟩
      | some y=>obtain ⟨kk,e⟩:=a0D hg hbh R;exact .inr ⟨kk,by simp [e]⟩)
     (.inl ⟨rfl,rfl⟩) h1 h2 (Nat.le_refl _)
    refine ⟨_,by simp [execOp,hop,Instr.sliceAt,Instr.slice,Go.underlying,hT.slice ht,hv,hrun,hT.size hte];rfl,fun d => ?_⟩;simp only [Ar.std];have e1:((nh:Int)-(nl:Int)).toNat=nh-nl:=by omega
    by_cases hm:cap=nl
    ·rw [if_pos hm];have:=RepV.mref (G:=G) (w:=w) (.s d) a0 td.size (l0+nl) ((nh:Int)-nl) b off (cap-nl) hnh (by omega) (by omega) (by omega) (by omega)
     rwa [e1] at this
    rw [if_neg hm];have:=RepV.mref (G:=G) (w:=w) (.s d) a0 td.size (l0+nl) ((nh:Int)-nl) b (off+nl*td.size) (cap-nl) hnh (by omega) (by omega) (by omega) (fun hlt=>by
     obtain ⟨rfl,rfl⟩:=hbo (by omega);refine ⟨rfl,?_⟩;rw [<-Nat.add_mul];congr 1;omega)
    rw [e1] at this;simpa [Addr.add_none] using this
   cases h
  cases h
 cases h
theorem c0h {args:Array Operand} {ts:Array TypeId} (hop:o.op = .call { callee := .builtin .len,args:=args,argTypes:=ts }) (h:a0L Ar.std T σ.n g H o=some (some (ss,h'))):a0f P σ o ss h':=by
 simp only [a0L,hop] at h;split at h
 ·rename_i x t hargs hts;obtain rfl:args = #[x]:=by cases args;simp_all
  obtain rfl:ts = #[t]:=by cases ts;simp_all
  split at h
  ·rename_i a0 k lo ln sz e z hx ht;simp only [zp3] at h;refine a0c hgd h (by simp [hop]) (AV.free_place rfl) ?_;intro G a w R;obtain ⟨b,off,cap,hv,hnh,hlo,hn,hcap,hbo⟩:=a1r hg R hx;refine ⟨.int .i64 ln,?_,fun d => .d _ _ _ (.int _ _)⟩;simp [execOp,hop,resolve,invoke,Go.builtin,Builtin.len_,Builtin.lenOf,hv,goInt,Go.underlying,hT.slice ht,Int.toNat_of_nonneg hn]
  cases h
 cases h
theorem b5m {t:TypeId} {x y:Operand} (hop:o.op = .store t x y) (h:a0L Ar.std T σ.n g H o=some (some (ss,h'))) (hHe:H=σ.heap):a0f P σ o ss h':=by
 have hnd : ∀ c,o.op ≠ .defer c:=by simp [hop]
 subst hHe;simp only [a0L,hop] at h;split at h
 ·rename_i a0 k i j hx;simp only [zp3] at h;split at h
  ·rename_i td k' l v ht hHi hv hdst;split at h
   ·rename_i hkk;obtain ⟨rfl,hpos⟩:=hkk;split at h
    ·rename_i hag;simp only [zp4,decide_eq_true_eq] at hag;obtain ⟨rfl,hagg⟩:=hag;cases v with | agg cs => ?_ | _=>cases h
     obtain ⟨v,hve⟩ : ∃ v:D,v = .agg cs:=⟨_,rfl⟩;have hcs:cs=v.cells:=by rw [hve];rfl
     rw [<-hve] at hv;simp only [hcs] at h;split at h
     ·rename_i hb;simp only [zp4] at hb;obtain ⟨hb1,hvl⟩:=hb;simp only [Ar.std,decide_eq_true_eq] at hb1 hvl;have hvl:v.cells.length=td.size:=by omega
      simp only [zp3,Prod.mk.injEq] at h;obtain ⟨rfl,rfl⟩:=h;intro r n m G a w Q next hm R hn
      obtain ⟨hpt,hnh,hi0⟩:=a3u hg R hx;have hrv:=a0z hg R hv;have hb2 : ∀ x∈v.cells,x.isOne=true:=by
       subst hve;generalize a.eval y=vv at hrv;cases hrv with | agg _ vs hs hh h1 =>
       intro x hx;obtain ⟨q,hq,rfl⟩:=List.mem_iff_getElem.1 hx;refine a2e (hh q hq) (h1 _ ?_);simp [Array.getD,hs,show q<cs.length from hq]
      obtain ⟨cur,e,hO,hw,hu,hs,h1,hh⟩:=R.h.objs a0 _ hHi;have hfl:=a0b hu;obtain ⟨hvs,hvc,hv1⟩:=hrv.cells;obtain ⟨p,hp⟩ : ∃ p,i.toNat+j=p:=⟨_,rfl⟩;have hpI:(i+(j:Int)).toNat=p:=by omega
      have hle:p+td.size<=l.length:=by omega
      have hspl:Ar.std.spl l (Ar.std.zadd i j) v.cells=l.take p++v.cells++l.drop (p+v.cells.length):=by
       show l.take (i+(j:Int)).toNat++v.cells++l.drop ((i+(j:Int)).toNat+v.cells.length)=_;rw [hpI]
      rw [hspl] at hn;have hvs':(a.eval y).cells.size=td.size:=by omega
      have hone : ∀ z∈(a.eval y).cells.toList,z.oneCell'=true:=by
       intro z hz;obtain ⟨q,hq,rfl⟩:=List.mem_iff_getElem.1 hz;have hq1:q<(a.eval y).cells.size:=by simpa using hq
       have:=hv1 q (by omega);simpa [Array.getD,hq1] using this
      have hrun:=a0Z hT ht hw (off:=p) (v:=a.eval y) hvs' (by omega) hone;have el:=a2d l v.cells p (by omega);have hu':a0k 1 (l.take p++v.cells++l.drop (p+v.cells.length)):=by
       intro x hx;simp only [List.mem_append] at hx;rcases hx with (hx | hx) | hx
       ·exact hu x (List.mem_of_mem_take hx)
       ·rw [a1G (hb2 x hx)];rfl
       exact hu x (List.mem_of_mem_drop hx)
      have hfl':=a0b hu';have each : ∀ (q:Nat) (hq:q<(D.flat (l.take p++v.cells++l.drop (p+v.cells.length))).length),RepD G.K (D.flat (l.take p++v.cells++l.drop (p+v.cells.length)))[q] ((rowOf cur p (a.eval y).cells.toList).getD q Go.undef) /\
        ((rowOf cur p (a.eval y).cells.toList).getD q Go.undef).oneCell'=true:=by
       intro q hq;have hql:q<l.length:=by omega
       have hql':q<(l.take p++v.cells++l.drop (p+v.cells.length)).length:=by omega
       have e1:=a2N l v.cells p q (by omega);have hfg:=a0H hu' (i:=q) (y:=(l.take p++v.cells++l.drop (p+v.cells.length))[q]) (zp1 hql') 0 (by omega);simp only [Nat.mul_one,Nat.add_zero] at hfg;rw [zp1 hq] at hfg;rw [zp1 hql'] at e1;rw [a1x (by simp;omega)];simp only [Array.length_toList,hvs'];by_cases c1:q<p
       ·rw [if_pos c1] at e1 ⊢;rw [zp1 hql] at e1;have hfo:=a0H hu (i:=q) (y:=l[q]) (zp1 hql) 0 (by omega);simp only [Nat.mul_one,Nat.add_zero] at hfo;have hqo:q<(D.flat l).length:=by omega
        rw [zp1 hqo] at hfo;rw [Option.some.inj e1,<-hfo] at hfg;rw [Option.some.inj hfg];exact ⟨hh q hqo,h1 q hqo⟩
       rw [if_neg c1] at e1 ⊢;by_cases c2:q<p+td.size
       ·rw [if_pos (by omega)] at e1 ⊢;rw [zp1 (by omega)] at e1;rw [Option.some.inj e1,a1G (hb2 _ (zp6 _))] at hfg;simp only [List.getElem?_cons_zero] at hfg;rw [Option.some.inj hfg];have:=hvc (q-p) (by omega);have h2:=hv1 (q-p) (by omega);simp only [zp5] at this h2;simp only [List.getD_eq_getElem?_getD,Array.getElem?_toList];exact ⟨this,h2⟩
       rw [if_neg (by omega)] at e1 ⊢;rw [zp1 hql] at e1;have hfo:=a0H hu (i:=q) (y:=l[q]) (zp1 hql) 0 (by omega);simp only [Nat.mul_one,Nat.add_zero] at hfo;have hqo:q<(D.flat l).length:=by omega
       rw [zp1 hqo] at hfo;rw [Option.some.inj e1,<-hfo] at hfg;rw [Option.some.inj hfg];exact ⟨hh q hqo,h1 q hqo⟩
      obtain ⟨hcore,hext⟩:=a1B R hHi hw (l':=l.take p++v.cells++l.drop (p+v.cells.length)) (row:=rowOf cur p (a.eval y).cells.toList) hu' (by rw [a0X (by simp;omega)];omega) (fun q hq=>(each q hq).2) (fun q hq=>(each q hq).1);rw [show i.toNat*1+j=p by omega] at hpt;refine a1P hnd (w':=w.setRow (G.β (.o a0)) (rowOf cur p (a.eval y).cells.toList)) (by simp [execOp,hop,hpt,Instr.storeAt,Instr.sureAddr,hrun]) (hn G _ _ ?_ (hext m));rw [hdst];simpa [Act.put] using hcore
     cases h
    have hvl:v.cells.length=td.size:=by
     split at h
     ·assumption
     cases h
    rw [if_pos hvl] at h;split at h
    ·rename_i y0 hy0;obtain ⟨i1,hi1⟩ : ∃ i1,eI Ar.std k' i j=i1:=⟨_,rfl⟩;obtain ⟨j1,hj1⟩ : ∃ j1,eJ k' j=j1:=⟨_,rfl⟩;have hij:=fun hi=>eIJ k' (i:=i) j hi;rw [hi1,hj1] at hij;rw [hi1] at hy0 h;rw [hj1] at h;have eptr_val : ∀ {G:Gh} {a:Act} {w:World} (_:Less g σ) (_:Rel G σ a w) (_:a5d g σ.heap x = .eptr a0 k' i j),a.eval x = .pointer (some ⟨G.β (.o a0),i1.toNat*k'+j1,none⟩)/\a0<G.nh/\0<=i1:=by
      intro G a w hg R hx;obtain ⟨q1,q2,q3⟩:=a3u hg R hx;rw [(hij q3).1] at q1;exact ⟨q1,q2,(hij q3).2⟩
     simp only [Ar.std] at hy0 h

     have main : ∀ (v':D),(y0.cells.length=k'->v'.cells.length=k'/\j1+td.size<=k' /\
       (∀ q,q<k'->v'.cells[q]?=if j1<=q/\q<j1+td.size then v.cells[q-j1]? else y0.cells[q]?))->a0f P σ o [] (some (σ.heap.set a0 (.arr k' (l.set i1.toNat v')))):=by
      intro v' hall r n m G a w Q next hm R hn
      obtain ⟨hpt,hnh,hi0⟩:=eptr_val hg R hx;have hrv:=a0z hg R hv;obtain ⟨cur,e,hO,hw,hu,hs,h1,hh⟩:=R.h.objs a0 _ hHi;obtain ⟨hv',hjk,hcells⟩:=hall (hu y0 (List.mem_of_getElem? hy0));have hk0:0<k':=by omega
      obtain ⟨hu',hl',hget⟩:=b0o hk0 hu hy0 hv';have hfl:=a0b hu;have hlt:i1.toNat<l.length:=(zp2.1 hy0).1;have hmul:i1.toNat*k'+k'<=l.length*k':=by rw [<-Nat.succ_mul];exact Nat.mul_le_mul_right _ hlt
      obtain ⟨hvs,hvc,hv1⟩:=hrv.cells;have hvs':(a.eval y).cells.size=td.size:=by omega
      have hone : ∀ z∈(a.eval y).cells.toList,z.oneCell'=true:=by
       intro z hz;obtain ⟨q,hq,rfl⟩:=List.mem_iff_getElem.1 hz;have hq1:q<(a.eval y).cells.size:=by simpa using hq
       have:=hv1 q (by omega);simpa [Array.getD,hq1] using this
      have hrun:=a0Z hT ht hw (off:=i1.toNat*k'+j1) (v:=a.eval y) hvs' (by omega) hone;have hrow : ∀ q,q<(D.flat l).length->(rowOf cur (i1.toNat*k'+j1) (a.eval y).cells.toList).getD q Go.undef=if i1.toNat*k'+j1<=q/\q<i1.toNat*k'+j1+td.size then (a.eval y).cells.getD (q-(i1.toNat*k'+j1)) Go.undef else cur.getD q Go.undef:=by
       intro q hq;rw [a1x (by simp;omega)];simp only [Array.length_toList,hvs'];by_cases c1:q<i1.toNat*k'+j1
       ·rw [if_pos c1,if_neg (by omega)]
       rw [if_neg c1];by_cases c2:q<i1.toNat*k'+j1+td.size
       ·rw [if_pos c2,if_pos (by omega)];simp [List.getD,zp5]
       rw [if_neg c2,if_neg (by omega)]
      have each : ∀ (q:Nat) (hq:q<(D.flat (l.set i1.toNat v')).length),RepD G.K (D.flat (l.set i1.toNat v'))[q] ((rowOf cur (i1.toNat*k'+j1) (a.eval y).cells.toList).getD q Go.undef) /\
        ((rowOf cur (i1.toNat*k'+j1) (a.eval y).cells.toList).getD q Go.undef).oneCell'=true:=by
       intro q hq;have hg0:=hget q;rw [zp1 hq] at hg0;rw [hrow q (by omega)];by_cases c:i1.toNat*k'+j1<=q/\q<i1.toNat*k'+j1+td.size
       ·rw [if_pos c];rw [if_pos (by omega),hcells _ (by omega),if_pos (by omega)] at hg0;rw [show q-i1.toNat*k'-j1=q-(i1.toNat*k'+j1) by omega,zp1 (by omega)] at hg0;rw [Option.some.inj hg0];exact ⟨hvc _ (by omega),hv1 _ (by omega)⟩
       rw [if_neg c];have hold:(D.flat (l.set i1.toNat v'))[q]=(D.flat l)[q]'(by omega):=by
        by_cases c2:i1.toNat*k'<=q/\q<i1.toNat*k'+k'
        ·rw [if_pos c2,hcells _ (by omega),if_neg (by omega)] at hg0;have:=a0H hu hy0 (q-i1.toNat*k') (by omega);rw [show i1.toNat*k'+(q-i1.toNat*k')=q by omega,zp1 (by omega)] at this;rw [<-this] at hg0;exact Option.some.inj hg0
        rw [if_neg c2,zp1 (by omega)] at hg0;exact Option.some.inj hg0
       rw [hold];exact ⟨hh q (by omega),h1 q (by omega)⟩
      obtain ⟨hcore,hext⟩:=a1B R hHi hw (l':=l.set i1.toNat v') (row:=rowOf cur (i1.toNat*k'+j1) (a.eval y).cells.toList) hu' (by rw [a0X (by simp;omega)];omega) (fun q hq=>(each q hq).2) (fun q hq=>(each q hq).1);refine a1P hnd (w':=w.setRow (G.β (.o a0)) (rowOf cur (i1.toNat*k'+j1) (a.eval y).cells.toList)) (by simp [execOp,hop,hpt,Instr.storeAt,Instr.sureAddr,hrun]) (hn G _ _ ?_ (hext m));rw [hdst];simpa [Act.put] using hcore
     split at h
     ·rename_i hc;obtain ⟨rfl,hsz⟩:=hc;cases h;exact main v (fun _=>⟨by omega,by omega,fun q hq=>by rw [if_pos (by omega)];simp⟩)
     split at h
     ·rename_i cs;split at h
      ·rename_i hc2;cases h;refine main (.agg (cs.take j1++v.cells++cs.drop (j1+td.size))) (fun hyk => ?_);replace hyk:cs.length=k':=hyk;have hv2:j1+v.cells.length<=cs.length:=by omega
       have e:=a2N cs v.cells j1;have el:=a2d cs v.cells j1 hv2;rw [<-hvl];refine ⟨el.trans hyk,by omega,fun q hq => ?_⟩;refine (e q hv2).trans ?_;show _=if j1<=q/\q<j1+v.cells.length then v.cells[q-j1]? else cs[q]?
       by_cases c1:q<j1
       ·rw [if_pos c1,if_neg (by omega)]
       rw [if_neg c1];by_cases c2:q<j1+v.cells.length
       ·rw [if_pos c2,if_pos (by omega)]
       rw [if_neg c2,if_neg (by omega)]
      cases h
     cases h
    cases h
   cases h
  cases h
 cases h
theorem b5n {args:Array Operand} {ts:Array TypeId} (hop:o.op = .call { callee := .builtin .clear,args:=args,argTypes:=ts }) (h:a0L Ar.std T σ.n g H o=some (some (ss,h'))) (hHe:H=σ.heap):a0f P σ o ss h':=by
 have hnd : ∀ c,o.op ≠ .defer c:=by simp [hop]
 subst hHe;simp only [a0L,hop,zp3] at h;split at h
 ·rename_i x t hargs hts;obtain rfl:args = #[x]:=by cases args;simp_all
  obtain rfl:ts = #[t]:=by cases ts;simp_all
  split at h
  ·rename_i a0 k lo ln sz e z hx ht;split at h
   ·rename_i td k' l hte hHi;split at h
    ·rename_i y hy;split at h
     ·rename_i hc;simp [Ar.std] at hc;obtain ⟨⟨rfl,hsz⟩,hfit⟩:=hc;subst hsz;simp only [Option.map_eq_some_iff] at h;obtain ⟨⟨ss1,h1⟩,hp,he⟩:=h;simp [Ar.std] at he;obtain ⟨rfl,rfl⟩:=he;obtain ⟨rfl,hcase⟩:=a0G hp

      intro r n m G a w Q next hm R hn
      obtain ⟨b,off,cap,hv,hnh,hlo,hn0,hcap,hbo⟩:=a1r hg R hx;obtain ⟨vs,ec,hO,hw,hu,hs,hone,hh⟩:=R.h.objs a0 _ hHi;obtain ⟨ie,de,hie,hde,hisz,_⟩:=hT.info hte;obtain ⟨z0,hz0,hz0s,hyl,hzr⟩:=a5j hT hte hy hie;have hfl:=a0b hu;obtain ⟨LO,rfl⟩:=zp9 hlo;obtain ⟨N,rfl⟩:=zp9 hn0;have hfit':LO+N<=l.length:=by omega
      have hdst' : ∀ (v:Value) (G':Gh) (w':World),Rel G' (σ.upd [] (some (σ.heap.set a0 (.arr td.size (a1p l LO N y))))) a w'->v = .tuple #[] ->
        Rel G' (σ.upd ss1 (some (σ.heap.set a0 (.arr td.size (a1p l LO N y))))) (a.put o.dst v) w':=by
       intro v G' w' R' hv;subst hv;rcases hcase with ⟨hd,rfl⟩ | ⟨d,hd,rfl,hlt,hb⟩
       ·rw [hd];simpa [Act.put,St.upd,a0r] using R'
       rw [hd];have:=R'.put (d:=d) (v := .tuple #[]) (av := .tuple []) (.tuple _ [] #[] rfl (fun i hi=>by simp at hi) (by simp)) (fun r off e=>by cases e) (by rw [hgd d hd] at hb;exact hb) hlt;simpa [St.upd,a0r] using this
      by_cases hN:N=0
      ·subst hN;have hfs:a1p l LO 0 y=l:=by simp [a1p]
       have hset:σ.heap.set a0 (.arr td.size l)=σ.heap:=by
        apply List.ext_getElem?;intro i;by_cases hi:a0=i
        ·subst hi;rw [List.getElem?_set_self (zp2.1 hHi).1,hHi]
        rw [List.getElem?_set_ne hi]
       have hrun:(execOp a.eval o).run P w = .ok (.value (.tuple #[])) w:=by
        simp [execOp,hop,resolve,invoke,Go.builtin,Builtin.clear_,hv,Go.underlying,hT.slice ht]
       refine a0y hnd hrun (hn G _ _ (hdst' _ _ _ ?_ rfl) (Ext.refl _ _ _));simp only [Int.ofNat_eq_natCast,Int.natCast_zero] at hfs ⊢;rw [hfs,hset];simpa [St.upd,a0r] using R
      obtain ⟨rfl,rfl⟩:=hbo (by omega);have hmul:LO*td.size+N*td.size<=l.length*td.size:=by rw [<-Nat.add_mul];exact Nat.mul_le_mul_right _ hfit'
      let zs:=(Builtin.zeroCells z0.cells N).toList;have hzl:zs.length=N*td.size:=by simp [zs,Builtin.zeroCells,hz0s]
      have hzg : ∀ q,q<N*td.size->zs.getD q Go.undef=z0.cells.getD (q%td.size) Go.undef:=by
       intro q hq;have hpos:0<td.size:=by
        rcases Nat.eq_zero_or_pos td.size with h | h
        ·rw [h] at hq;simp at hq
        exact h
       have hm:=Nat.mod_lt q hpos;simp [zs,Builtin.zeroCells,List.getD,hz0s,hq,Array.getD,hm]
      have hst:=run_storeCells_at P (G.β (.o a0)) (LO*td.size) ec zs 0 vs w hw (by omega) (fun v hv=>by
       obtain ⟨q,hq,rfl⟩:=List.mem_iff_getElem.1 hv;have hq':q<N*td.size:=by omega
       have:=hzg q hq';rw [List.getD_eq_getElem?_getD,zp1 hq] at this;simp only [Option.getD_some] at this;rw [this];have hpos:0<td.size:=by
        rcases Nat.eq_zero_or_pos td.size with h | h
        ·rw [h] at hq';simp at hq'
        exact h
       exact (hzr (q%td.size) (by rw [hyl];exact Nat.mod_lt _ hpos) G.K).2)
      simp only [Nat.add_zero] at hst;have hrun:(execOp a.eval o).run P w = .ok (.value (.tuple #[])) (w.setRow (G.β (.o a0)) (rowOf vs (LO*td.size) zs)):=by
       have hNN : ∃ N',N=N'+1:=⟨N-1,by omega⟩;obtain ⟨N',hN'⟩:=hNN;have key:(Builtin.clear_ #[t] o.type #[.slice (some ⟨G.β (.o a0),LO*td.size,none⟩) N cap]).run P w = .ok (.tuple #[]) (w.setRow (G.β (.o a0)) (rowOf vs (LO*td.size) zs)):=by
        subst hN';have hzz:(Builtin.zeroCells z0.cells (N'+1)).toList=zs:=rfl;simp [Builtin.clear_,Go.underlying,hT.slice ht,zeroValue,typeInfo,hie,hz0,hzz,hst,rowOf]
       simp only [execOp,hop,resolve,invoke,Go.builtin,Sem.run_bind,Sem.run_pure,Result.andThen_ok];simp at hv;simp [hv,key]
      have hrw:rowOf vs (LO*td.size) zs=rowOf vs (LO*td.size) zs:=rfl;have huf:a0k td.size (a1p l LO N y):=by
       intro x hx;simp only [a1p,Int.toNat_natCast,List.mem_append,List.mem_replicate] at hx;rcases hx with (hx | ⟨_,rfl⟩) | hx
       ·exact hu x (List.mem_of_mem_take hx)
       ·exact hyl
       exact hu x (List.mem_of_mem_drop hx)
      have hlf:(a1p l LO N y).length=l.length:=by simp [a1p];omega
      have hff:(D.flat (a1p l LO N y)).length=(D.flat l).length:=by rw [a0b huf,a0b hu,hlf]
      have each : ∀ (q:Nat) (hq:q<(D.flat (a1p l LO N y)).length),RepD G.K (D.flat (a1p l LO N y))[q] ((rowOf vs (LO*td.size) zs).getD q Go.undef)/\((rowOf vs (LO*td.size) zs).getD q Go.undef).oneCell'=true:=by
       intro q hq;have hpos:0<td.size:=by
        rcases Nat.eq_zero_or_pos td.size with h | h
        ·rw [a0b huf,h] at hq;simp at hq
        exact h
       have hqm:q%td.size<td.size:=Nat.mod_lt _ hpos;have hqd:q / td.size<l.length:=by rw [Nat.div_lt_iff_lt_mul hpos];omega
       have hqq:q / td.size*td.size+q%td.size=q:=by rw [Nat.mul_comm];exact Nat.div_add_mod _ _
       have hel:(a1p l LO N y)[q / td.size]?=if LO<=q / td.size/\q / td.size<LO+N then some y else l[q / td.size]?:=by
        simp only [a1p,Int.toNat_natCast];by_cases c1:q / td.size<LO
        ·rw [if_neg (by omega),List.append_assoc,zp7 (by simp;omega),List.getElem?_take_of_lt c1]
        by_cases c2:q / td.size<LO+N
        ·rw [if_pos (by omega),List.append_assoc,zp8 (by simp;omega),zp7 (by simp;omega)];rw [List.getElem?_replicate,if_pos (by simp;omega)]
        rw [if_neg (by omega),zp8 (by simp;omega),List.getElem?_drop];congr 1;simp;omega
       rw [a1x (by omega),hzl];by_cases c:LO<=q / td.size/\q / td.size<LO+N
       ·rw [if_pos c] at hel;have hfg:=a0H huf hel (q%td.size) hqm;rw [hqq,zp1 hq,zp1 (by omega)] at hfg;have l1:LO*td.size<=q:=by rw [<-hqq];exact Nat.le_trans (Nat.mul_le_mul_right _ c.1) (Nat.le_add_right _ _)
        have l2:q<LO*td.size+N*td.size:=by
         rw [<-Nat.add_mul,<-hqq];have:(q / td.size+1)*td.size<=(LO+N)*td.size:=Nat.mul_le_mul_right _ (by omega);rw [Nat.succ_mul] at this;omega
        rw [if_neg (by omega),if_pos l2,hzg _ (by omega),Option.some.inj hfg];have hmod:(q-LO*td.size)%td.size=q%td.size:=by
         have:q=(q-LO*td.size)+LO*td.size:=by omega
         conv=>rhs;rw [this,Nat.add_mul_mod_self_right]
        rw [hmod];exact hzr _ (by omega) G.K
       rw [if_neg c] at hel;have hfg:=a0H huf (by rw [hel];exact zp1 hqd) (q%td.size) hqm;have hfo:=a0H hu (zp1 hqd) (q%td.size) hqm;rw [hqq] at hfg hfo;rw [<-hfo,zp1 hq,zp1 (by omega)] at hfg;have hnot : ¬ (LO*td.size<=q/\q<LO*td.size+N*td.size):=by
        rintro ⟨c1,c2⟩;rw [<-Nat.add_mul] at c2;exact c ⟨(Nat.le_div_iff_mul_le hpos).2 c1,(Nat.div_lt_iff_lt_mul hpos).2 c2⟩
       have hval:(if q<LO*td.size then vs.getD q Go.undef else if q<LO*td.size+N*td.size then zs.getD (q-LO*td.size) Go.undef else vs.getD q Go.undef)=vs.getD q Go.undef:=by
        by_cases c1:q<LO*td.size
        ·rw [if_pos c1]
        rw [if_neg c1,if_neg (by omega)]
       rw [hval,Option.some.inj hfg];exact ⟨hh q (by omega),hone q (by omega)⟩
      obtain ⟨hcore,hext⟩:=a1B R hHi hw (l':=a1p l LO N y) (row:=rowOf vs (LO*td.size) zs) huf (by rw [a0X (by omega)];omega) (fun q hq=>(each q hq).2) (fun q hq=>(each q hq).1);exact a0y hnd hrun (hn G _ _ (hdst' _ _ _ hcore rfl) (hext m))
     cases h
    cases h
   cases h
  cases h
 cases h
end
theorem a4S {P:Program} {σ:St} {o:Oper} {ob:Obj} {v:AV} {d:Nat} (hdst:o.dst=some d) (hlt:d<σ.n) (hun:(σ.get d).isBox=false) (hnd : ∀ c,o.op ≠ .defer c) (hvl:v.isLocal=false)
  (hrun : ∀ G a w,Rel G σ a w -> ∃ (w1:World) (wo:Go.Obj) (val:Value),(w1.heap=w.heap/\w1.os=w.os/\w1.output=w.output/\w1.tape=w.tape/\w.drawn<=w1.drawn)/\(execOp a.eval o).run P w = .ok (.value val) (w1.alloc wo)/\(∀ c t f,wo = .cells c t f->f=(0,0)) /\
   ∀ G':Gh,G'.K=G.K->G'.O w.heap.size=some (.o σ.heap.length,0)->G'.β (.o σ.heap.length)=w.heap.size->G'.nh=σ.heap.length+1 ->
     a2c G' (w1.alloc wo) σ.heap.length ob/\RepV G' (w1.alloc wo) (.s d) v val):a0f P σ o [(d,v)] (some (σ.heap++[ob])):=by
 intro r n m G a w0 Q next hm R0 hn
 obtain ⟨w,wo,val,⟨hw1,hw2,hw3,hw4,hw5⟩,hr,hfz,hrep⟩:=hrun G a w0 R0;have R:=R0.drew hw1;have hsz:w0.heap.size=w.heap.size:=by rw [hw1]
 rw [hsz] at hrep;let G':Gh:={ (G.own w.heap.size (.o G.nh) 0).at (.o G.nh) w.heap.size with nh:=G.nh+1 }
 have hOold : ∀ b x f,G.O b=some (x,f)->G'.O b=some (x,f):=by
  intro b x f h;have:=(R.h.disj b x f h).1;simp [G',Gh.own,Gh.at,Nat.ne_of_lt this,h]
 have hβold : ∀ i,i<G.nh->G'.β (.o i)=G.β (.o i):=by
  intro i hi;simp [G',Gh.own,Gh.at,Nat.ne_of_lt hi]
 have hpr:Pres G G' w (w.alloc wo) (fun _=>True) :=
  ⟨KLe.refl _,fun b x f _ h=>⟨hOold b x f h,a0o (R.h.disj b x f h).1⟩,hβold,Nat.le_succ _⟩
 obtain ⟨hob',hv'⟩:=hrep G' rfl (by rw [R.h.nh];simp [G',Gh.own,Gh.at]) (by rw [R.h.nh];simp [G',Gh.at]) (by rw [R.h.nh]);refine a0y hnd hr (hn G' _ _ ?_ ((Ext.drew hw1 hw2 hw3 hw4 hw5).trans (Ext.alloc (KLe.refl _) (fun x v h => .inl h) (fun b hb h=>by simp [G',Gh.own,Gh.at,Nat.ne_of_lt hb,h]) (fun i hi=>hβold i (by omega)) (frozen?_alloc_new _ _ hfz))));rw [hdst];have hd':d<a.tmps.size:=by rw [R.size];exact hlt
 have hnopl : ∀ t off,σ.get t ≠ .place d off:=by
  intro t off e;obtain ⟨cs,h⟩:=R.places t d off e;rw [h] at hun;simp [AV.isBox] at hun
 refine ⟨⟨⟨fun b x f h => ?_⟩,?_,fun i ob hob => ?_,fun x v h=>a1E (R.h.kept x v h),fun b x f h => ?_⟩,by simpa [Act.put,St.upd] using R.size,?_,?_,?_⟩
 ·simp only [G',Gh.own,Gh.at] at h;split at h
  ·simp at h;rw [<-h.1];simp [Loc.root]
  exact R.h.sane.no b x f h
 ·simp [St.upd,G',R.h.nh]
 ·simp only [St.upd,Option.getD_some] at hob;rcases Nat.lt_or_ge i σ.heap.length with hi | hi
  ·rw [zp7 hi] at hob;exact (R.h.objs i ob hob).pres R.h.sane (by rw [<-R.h.nh];exact hi) hpr trivial (fun _=>trivial)
  have hi':i=σ.heap.length:=by
   have:=(zp2.1 hob).1;simp at this;omega
  subst hi';simp at hob;subst hob;exact hob'
 ·simp only [G',Gh.own,Gh.at] at h;split at h
  ·rename_i hbe;subst hbe;simp at h;refine ⟨by simp,fun j _ => ?_⟩;cases hK:G.K ⟨w.heap.size,j,none⟩ with
   | none=>simpa [G',Gh.own,Gh.at] using hK
   | some v=>exact absurd (World.block_lt_of_cell? w _ (R.h.kept _ _ hK)) (by simp)
  have:=R.h.disj b x f h;exact ⟨by simp;omega,this.2⟩
 ·intro t;simp only [Act.put,a1q _ _ _ _ hd',St.upd,St.get,a0r,List.foldl_cons,List.foldl_nil,a0d];split
  ·rename_i e';subst e';exact hv'
  refine (R.slots t).pres R.h.sane hpr trivial (fun r' off e'=>by simp [G',Gh.own,Gh.at]) (fun t' e' hbx=>⟨by simp [G',Gh.own,Gh.at],fun _=>trivial⟩)
 ·intro t r'' off' ht;simp only [St.upd,St.get,a0r,List.foldl_cons,List.foldl_nil,a0d] at ht ⊢;split at ht
  ·subst ht;simp [AV.isLocal] at hvl
  obtain ⟨cs',hcs'⟩:=R.places t r'' off' ht;split
  ·rename_i e;subst e;exact absurd ht (hnopl t off')
  exact ⟨cs',hcs'⟩
 refine ⟨R.df.1,fun x hx => ?_⟩;obtain ⟨r0,h1,h2,h3⟩:=R.df.2 x hx;exact ⟨r0,h1,hOold _ _ _ h2,by rw [a0o (R.h.disj _ _ _ h2).1];exact h3⟩
theorem a3V {P:Program} {σ:St} {o:Oper} {ob:Obj} {v:AV} {d:Nat} (hdst:o.dst=some d) (hlt:d<σ.n) (hun:(σ.get d).isBox=false) (hnd : ∀ c,o.op ≠ .defer c) (hvl:v.isLocal=false)
  (hrun : ∀ G a w,Rel G σ a w -> ∃ (wo:Go.Obj) (val:Value),(execOp a.eval o).run P w = .ok (.value val) (w.alloc wo)/\(∀ c t f,wo = .cells c t f->f=(0,0)) /\
   ∀ G':Gh,G'.K=G.K->G'.O w.heap.size=some (.o σ.heap.length,0)->G'.β (.o σ.heap.length)=w.heap.size->G'.nh=σ.heap.length+1 ->
     a2c G' (w.alloc wo) σ.heap.length ob/\RepV G' (w.alloc wo) (.s d) v val):a0f P σ o [(d,v)] (some (σ.heap++[ob])) :=
 a4S hdst hlt hun hnd hvl fun G a w R=>by
  obtain ⟨wo,val,h1,h2,h3⟩:=hrun G a w R;exact ⟨w,wo,val,⟨rfl,rfl,rfl,rfl,Nat.le_refl _⟩,h1,h2,h3⟩
theorem a5F {G:Gh} {σ:St} {a:Act} {w:World} (R:Rel G σ a w) {i:Nat} {ob:Obj} {wo wo':Go.Obj} (hi:i<σ.heap.length) (hO:G.O (G.β (.o i))=some (.o i,0))
  (hw:w.heap[G.β (.o i)]?=some wo) (hf : ∀ x:World,x.heap[G.β (.o i)]?=some wo -> ∀ y:World,y.heap[G.β (.o i)]?=some wo' -> ∀ ad:Addr,ad.block=G.β (.o i)->y.frozen? ad=x.frozen? ad)
  (hrep : ∀ w',w'.heap[G.β (.o i)]?=some wo'->a2c G w' i ob) :
  Rel G (σ.upd [] (some (σ.heap.set i ob))) a { w with heap:=w.heap.setIfInBounds (G.β (.o i)) wo' } /\ ∀ m,Ext m G w G { w with heap:=w.heap.setIfInBounds (G.β (.o i)) wo' }:=by
 let b:=G.β (.o i);let w':World:={ w with heap:=w.heap.setIfInBounds b wo' }
 have hlt:b<w.heap.size:=(Array.getElem?_eq_some_iff.1 hw).1;have hself:w'.heap[b]?=some wo':=by simp [w',hlt]
 have hother : ∀ b',b'≠b->w'.heap[b']?=w.heap[b']?:=fun b' hne=>by simp [w',Ne.symm hne]
 have hpr:Pres G G w w' (fun x=>x ≠ .o i) :=
  ⟨KLe.refl _,fun b' x f hx h=>⟨h,hother _ (by rintro rfl;rw [hO] at h;simp at h;exact hx h.1.symm)⟩,fun _ _=>rfl,Nat.le_refl _⟩
 have hkept : ∀ x v,G.K x=some v->w'.cell? x=some v:=by
  intro x v h;have hx:=R.h.kept x v h;have hne:x.block≠b:=by
   intro hxb;have hspot:=World.cell?_spot hx;obtain ⟨xb,j,s⟩:=x;simp at hspot hxb;subst hspot hxb;have:=(R.h.disj _ _ _ hO).2 j (Nat.zero_le _);rw [show G.K ⟨b,j,none⟩=none from this] at h;cases h
  unfold World.cell? at *
  rwa [hother _ hne]
 refine ⟨⟨⟨R.h.sane,by simpa [St.upd] using R.h.nh,fun i' ob' hob => ?_,hkept,fun b' ℓ f h => ?_⟩,by simpa [St.upd] using R.size,?_,?_,?_⟩,fun m => ?_⟩
 ·simp only [St.upd,Option.getD_some] at hob;by_cases hii:i=i'
  ·subst hii;rw [List.getElem?_set_self hi] at hob;injection hob with hob;subst hob
   exact hrep w' hself
  rw [List.getElem?_set_ne hii] at hob;exact (R.h.objs i' ob' hob).pres R.h.sane (by rw [<-R.h.nh];exact (zp2.1 hob).1) hpr (by simp;exact fun e=>hii e.symm) (by simp)
 ·have:=R.h.disj b' ℓ f h;exact ⟨by simpa using this.1,this.2⟩
 ·intro t;exact (R.slots t).pres R.h.sane hpr (by simp) (fun _ _ _=>rfl) (fun t' e' _=>⟨rfl,fun j=>by simp⟩)
 ·intro t r'' off' ht;exact R.places t r'' off' ht
 ·refine ⟨R.df.1,fun x hx => ?_⟩;obtain ⟨r0,h1,h2,h3⟩:=R.df.2 x hx;refine ⟨r0,h1,h2,?_⟩;have:r0≠b:=by rintro rfl;rw [show G.O b=_ from hO] at h2;cases h2
  exact (hother _ this).trans h3
 refine ⟨KLe.refl _,fun x v h => .inl h,fun b' _ h=>⟨hother _ (by rintro rfl;rw [show G.O b=_ from hO] at h;cases h),h⟩,by simp,fun _ _=>rfl,rfl,rfl,fun ad _ => ?_,rfl,Nat.le_refl _⟩;by_cases hab:ad.block=b
 ·exact hf w hw w' hself ad hab
 unfold World.frozen?;rw [show w'.heap[ad.block]?=w.heap[ad.block]? from hother _ hab]
theorem a4g : ∀ {ks:List CK} {xs:List D},a1i ks xs=true -> ∀ n,((xs.map D.sval).zip (xs.map D.sval)).all (fun (x,y)=>Instr.sameBits n x y)=true
 | [],[],_,n=>rfl
 | k::ks,x::xs,h,n=>by
   simp only [a1i,zp4] at h;have h1:Instr.sameBits n x.sval x.sval=true:=by
    cases k <;> cases x <;> simp [CK.fits] at h <;> simp [D.sval,Instr.sameBits,MapKept.bytes_beq]
   have h2:=a4g h.2 n;simp only [List.map_cons,List.zip_cons_cons,List.all_cons,h1,Bool.true_and];exact h2
 | [],_::_,h,_=>by simp [a1i] at h
 | _::_,[],h,_=>by simp [a1i] at h
theorem a5G {agg:Bool} {ks:List CK} {d:D} (h:a0F agg ks d=true):Instr.sameBits 10000 (mkV agg d.cells) (mkV agg d.cells)=true:=by
 simp only [a0F,zp4] at h;obtain ⟨h,h2⟩:=h;cases agg with
 | true =>
   have:=a4g h 9999;simpa [mkV,Instr.sameBits] using this
 | false =>
   have hc:d.cells=[d]:=by cases d <;> first | rfl | (simp at h2)
   rw [hc] at h ⊢
   match ks,h with
   | [k],h =>
     simp only [a1i,Bool.and_true] at h;cases k <;> cases d <;> simp [CK.fits] at h <;> simp [mkV,D.sval,Instr.sameBits,MapKept.bytes_beq]
   | [],h=>simp [a1i] at h
   | _::_::_,h=>simp [a1i] at h
theorem EntRep.size {K:Addr->Option Value} {agg:Bool} {ks:List CK} {es:List (D×D)} {ms:List MapEntry} (h:EntRep K agg ks es ms):ms.length=es.length:=by
 induction h with
 | nil=>rfl
 | cons _ _ ih=>simp [ih]
theorem EntRep.get {K:Addr->Option Value} {agg:Bool} {ks:List CK} {es:List (D×D)} {ms:List MapEntry} (h:EntRep K agg ks es ms) : ∀ {j:Nat} {p:D×D} {m:MapEntry},es[j]?=some p->ms[j]?=some m ->
  a0F agg ks p.1=true/\m.key=mkV agg p.1.cells/\RepD K p.2 m.val:=by
 induction h with
 | nil=>intro j p m h1;simp at h1
 | cons hp _ ih =>
   intro j p m h1 h2;cases j with
   | zero=>simp at h1 h2;subst h1 h2;exact hp
   | succ j=>exact ih (by simpa using h1) (by simpa using h2)
theorem EntRep.set {K:Addr->Option Value} {agg:Bool} {ks:List CK} {es:List (D×D)} {ms:List MapEntry} (h:EntRep K agg ks es ms) {p:D×D} {m:MapEntry} (hp:a0F agg ks p.1=true/\m.key=mkV agg p.1.cells/\RepD K p.2 m.val) :
  ∀ (j:Nat),EntRep K agg ks (es.set j p) (ms.set j m):=by
 induction h with
 | nil=>intro j;exact .nil
 | cons hq h ih =>
   intro j;cases j with
   | zero=>exact .cons hp h
   | succ j=>exact .cons hq (ih j)
theorem EntRep.push {K:Addr->Option Value} {agg:Bool} {ks:List CK} {es:List (D×D)} {ms:List MapEntry} (h:EntRep K agg ks es ms) {p:D×D} {m:MapEntry} (hp:a0F agg ks p.1=true/\m.key=mkV agg p.1.cells/\RepD K p.2 m.val) :
  EntRep K agg ks (es++[p]) (ms++[m]):=by
 induction h with
 | nil=>exact .cons hp .nil
 | cons hq _ ih=>exact .cons hq ih
theorem b6R.push {ms:Array MapEntry} {clock:Nat} (h:b6R ms clock) (m:MapEntry) (hm:m.born=clock):b6R (ms.push m) (clock+1):=by
 refine ⟨by rw [Array.size_push,h.1],fun j e he => ?_⟩;rw [Array.getElem?_push] at he;split at he
 ·rename_i hj;cases he;rw [hm,h.1,hj]
 exact h.2 j e he
theorem b6R.modify {ms:Array MapEntry} {clock:Nat} (h:b6R ms clock) (i:Nat) (f:MapEntry->MapEntry) (hf : ∀ e,(f e).born=e.born):b6R (ms.modify i f) clock:=by
 refine ⟨by rw [Array.size_modify,h.1],fun j e he => ?_⟩;rw [Array.getElem?_modify] at he;split at he
 ·obtain ⟨e0,h1,rfl⟩:=Option.map_eq_some_iff.1 he;rw [hf];exact h.2 j e0 h1
 exact h.2 j e he
theorem a8l {es:List (D×D)} {k v0:D} (h:mget es k=some v0) (v:D):mput es k v=es.set (midx es k) (k,v):=by
 induction es with
 | nil=>simp [mget] at h
 | cons p r ih =>
   simp only [mget,mput,midx] at h ⊢;by_cases hp:p.1=k
   ·simp [hp]
   rw [if_neg hp] at h ⊢;rw [if_neg hp,ih h];rfl
theorem a7f {es:List (D×D)} {k v0:D} (h:mget es k=some v0):es[midx es k]?=some (k,v0):=by
 induction es with
 | nil=>simp [mget] at h
 | cons p r ih =>
   simp only [mget,midx] at h ⊢;by_cases hp:p.1=k
   ·rw [if_pos hp] at h ⊢;cases h;subst hp;rfl
   rw [if_neg hp] at h ⊢;simpa using ih h
theorem b7W {es:List (D×D)} {k:D} {j:Nat} {p:D×D} (h1:es[j]?=some p) (h2:p.1=k) (h : ∀ v,mput es k v=es.set j (k,v)):midx es k=j:=by
 have hm : ∃ v0,mget es k=some v0:=by
  cases hh:mget es k with
  | some v0=>exact ⟨v0,rfl⟩
  | none =>
    have:=a4f es k (.bool true) k;have h3:=a4f es k (.bool false) k;exfalso;have hl : ∀ {es:List (D×D)},mget es k=none -> ∀ q∈es,q.1≠k:=by
     intro es
     induction es with
     | nil=>simp
     | cons q r ih =>
       intro h0 q' hq';simp only [mget] at h0;by_cases hq:q.1=k
       ·rw [if_pos hq] at h0;cases h0
       rw [if_neg hq] at h0;rcases List.mem_cons.1 hq' with rfl | h4
       ·exact hq
       exact ih h0 _ h4
    exact hl hh p (List.mem_of_getElem? h1) h2
 obtain ⟨v0,hm⟩:=hm;by_cases hne:midx es k=j
 ·exact hne
 exfalso;have key : ∀ v,v=v0:=by
  intro v;have h3:=a8l hm v;rw [h v] at h3;have h4:=congrArg (fun l=>l[midx es k]?) h3;simp only [List.getElem?_set] at h4;have h5:=a7f hm;have hlt:=(zp2.1 h5).1;rw [if_neg (fun e=>hne e.symm)] at h4;rw [h5] at h4;simp [hlt] at h4;exact h4.symm
 have:=(key (.bool true)).trans (key (.bool false)).symm;cases this
section
variable {P:Program} {T:a0i} (hT:TOk P T) {σ:St} {g:Nat->AV} {o:Oper} {ss:a1C} {h':Option (List Obj)} {H:List Obj}
 (hg:Less g σ) (hgd : ∀ d,o.dst=some d->g d=σ.get d) (hH : ∀ (i:Nat) (ob:Obj),H[i]?=some ob->σ.heap[i]?=some ob)
theorem a7g {G:Gh} {a:Act} {w:World} (hg:Less g σ) (R:Rel G σ a w) {x:Operand} {i:Nat} (h:a1M g x = .map i):a.eval x = .map (some (G.β (.o i)))/\i<G.nh:=by
 obtain ⟨s,rfl,hs⟩:=a2w h (by simp);have:=hg.rep R s;rw [hs] at this;generalize hv:a.tmps.getD s Go.undef=v at this;cases this with | map _ _ h1=>exact ⟨hv,h1⟩
theorem _root_.Go.Am.TOk.map' {P:Program} {T:a0i} (hT:TOk P T) {t k e:TypeId} {sz:Nat} {z:List AV} (h:T t=some ⟨sz,.map k e,z⟩):P.underlying t=some (.map k e):=by
 obtain ⟨d,hd,hu⟩:=hT.under h;cases d <;> simp [uOk] at hu;obtain ⟨rfl,rfl⟩:=hu;exact hd
include hT hg hgd hH
theorem b1X {t:TypeId} {rs:Option Operand} (hop:o.op = .makeMap t rs) (h:a0L Ar.std T σ.n g H o=some (some (ss,h'))) (hHe:H=σ.heap):a0f P σ o ss h':=by
 have hnd : ∀ c,o.op ≠ .defer c:=by simp [hop]
 subst hHe;simp only [a0L,hop,zp3] at h;split at h
 ·rename_i sz kt et z d ht hdst;split at h
  ·rename_i ks tk hks htk;split at h
   ·rename_i hc;simp at hc h;obtain ⟨rfl,rfl⟩:=h;refine a3V hdst hc.1 (by rw [<-hgd d hdst];exact hc.2) hnd rfl ?_;intro G a w R;refine ⟨.map #[] 0,.map (some w.heap.size),by simp [execOp,hop,Instr.makeMap],fun _ _ _ e=>(by cases e),fun G' hK hO hβ hnh=>⟨?_,?_⟩⟩
    ·refine ⟨#[],0,by rw [hβ];exact hO,by rw [hβ];exact heap_alloc_new,?_,rfl,fun j e h=>by simp at h⟩;exact .nil
    have:=RepV.map (G:=G') (w:=w.alloc (.map #[] 0)) (.s d) σ.heap.length (by omega)
    rwa [hβ] at this
   cases h
  cases h
 cases h
theorem a5e {t:TypeId} {x:Operand} (hop:o.op = .makeInterface t x) (h:a0L Ar.std T σ.n g H o=some (some (ss,h'))):a0f P σ o ss h':=by
 have hnd : ∀ c,o.op ≠ .defer c:=by simp [hop]
 simp only [a0L,hop,zp3] at h;split at h
 ·rename_i sz ms z ht hx;refine a0c hgd h hnd (AV.free_place rfl) ?_;intro G a w R;have h1:=a0z hg R hx;obtain ⟨i,hi,_,fs,hu⟩:=hT.meth ht;have hv:a.eval x = .agg #[]:=by
   generalize a.eval x=v at h1;cases h1 with | agg _ vs hs _ _ =>
   have:vs = #[]:=by apply Array.eq_empty_of_size_eq_zero;simpa using hs
   rw [this]
  refine ⟨.iface t (.agg #[]),?_,fun d => ?_⟩
  ·simp [execOp,hop,Instr.makeInterface,run_underlying hu,hv]
  have:=RepV.d (G:=G) (w:=w) (.s d) (.iface (Int.ofNat t)) _ (.iface (Int.ofNat t));unfold a1N at this;rw [if_neg (by simp)] at this;simpa using this
 cases h
theorem b7X {t t':TypeId} {x:Operand} {sz:Nat} {zz:List AV} {z:Int} (hop:o.op = .binOp .eql t x (.const .nilIface) t') (ht:T t=some ⟨sz,.iface,zz⟩) (hx:opD T g t x=some (.iface z)) (h:Am.put σ.n g o.dst (.d (.bool (Ar.std.zlt z 0)))=some (ss,h')):a0f P σ o ss h':=by
 have hnd : ∀ c,o.op ≠ .defer c:=by simp [hop]
 refine a0c hgd h hnd (AV.free_place rfl) ?_;intro G a w R;have h1:=a0z hg R hx;obtain ⟨ms,hu⟩:=hT.iface ht;have hv:a.eval x=a1N z:=by
  generalize a.eval x=v at h1;cases h1;rfl
 have hc:a.eval (.const .nilIface) = .nilIface:=rfl;refine ⟨.bool (decide (z<0)),?_,fun d => .d _ _ _ (.bool _)⟩;have h1 : ∀ d:Nat,(Op.equalIn (d+1) t (a1N z) .nilIface).run P w = .ok (decide (z<0)) w:=fun d=>by
  unfold a1N;by_cases hz:z<0
  ·rw [if_pos hz];simp [Op.equalIn,Go.underlying,hu,hz]
  rw [if_neg hz];simp [Op.equalIn,Go.underlying,hu,hz]
 have heq:(Op.equal t (a1N z) .nilIface).run P w = .ok (decide (z<0)) w:=by
  simp [Op.equal,Op.maxDepth,h1 9999]
 have hg0:(eqGuard .eql t x (.const .nilIface) (a1N z) .nilIface).run P w = .ok () w:=by
  unfold a1N;by_cases hz:z<0
  ·rw [if_pos hz];simp [eqGuard]
  rw [if_neg hz];simp [eqGuard]
 have hb:(binOp .eql t (a1N z) .nilIface).run P w = .ok (.bool (decide (z<0))) w:=by
  have:binOp .eql t (a1N z) .nilIface=(do pure (.bool (<-Op.equal t (a1N z) .nilIface))):=by
   unfold a1N;by_cases hz:z<0
   ·rw [if_pos hz];rfl
   rw [if_neg hz];rfl
  rw [this];simp [heq]
 simp only [execOp,hop,hv,hc];simp [hg0,hb]
theorem a8m {t:TypeId} {ln cp:Operand} (hop:o.op = .makeSlice t ln cp) (h:a0L Ar.std T σ.n g H o=some (some (ss,h'))) (hHe:H=σ.heap):a0f P σ o ss h':=by
 have hnd : ∀ c,o.op ≠ .defer c:=by simp [hop]
 subst hHe;simp only [a0L,hop,zp3] at h;split at h
 ·rename_i sz e z kz z1 kz' z1' d ht hln hcp hdst;split at h
  ·rename_i td hte;split at h
   ·rename_i y hy;split at h
    ·rename_i hc;simp [Ar.std] at hc h;obtain ⟨⟨⟨⟨⟨hlt,hb⟩,hpos⟩,rfl⟩,hz0⟩,hfit⟩:=hc;obtain ⟨rfl,rfl⟩:=h;refine a3V hdst hlt (by rw [<-hgd d hdst];exact hb) hnd rfl ?_;intro G a w R;have h1:=a0z hg R hln;have h2:=a0z hg R hcp;obtain ⟨ie,de,hie,hde,hisz,hbytes,_⟩:=hT.info hte;obtain ⟨z0,hz0',hz0s,hyl,hzr⟩:=a5j hT hte hy hie;obtain ⟨N,rfl⟩:=zp9 hz0;have e1:a.eval ln = .int kz N:=by generalize hv:a.eval ln=v at h1;cases h1;rfl
     have e2:a.eval cp = .int kz' N:=by generalize hv:a.eval cp=v at h2;cases h2;rfl
     have hmk:=run_make (P:=P) w t e ie z0 (hT.slice ht) hie hz0' kz kz' N N (by omega) (Int.le_refl _) (by
      have:ie.bytes*N<=4096*4294967296:=Nat.mul_le_mul hbytes (by omega);have h3:((ie.bytes*N:Nat):Int)<=281474976710656:=by omega
      rwa [Int.natCast_mul] at h3) (by omega)
     simp only [Int.toNat_natCast,hisz] at hmk;have hu:a0k td.size (List.replicate N y):=fun x hx=>by rw [(List.mem_replicate.1 hx).2];exact hyl
     have hfl:=a0b hu;have hget : ∀ q,q<N*td.size->(madeCells z0.cells (N*td.size)).getD q Go.undef=z0.cells.getD (q%td.size) Go.undef:=by
      intro q hq;have hm:=Nat.mod_lt q hpos;simp [madeCells,hz0s,hq,Array.getD,hm]
     refine ⟨.cells (madeCells z0.cells (N*td.size)) e (0,0),.slice (some ⟨w.heap.size,0,none⟩) N N,by simp [execOp,hop,e1,e2,hmk],fun _ _ _ e=>by cases e;rfl,fun G' hK hO hβ hnh=>⟨?_,?_⟩⟩
     ·simp only [Int.toNat_natCast];have each : ∀ (q:Nat) (hq:q<(D.flat (List.replicate N y)).length),RepD G'.K (D.flat (List.replicate N y))[q] ((madeCells z0.cells (N*td.size)).getD q Go.undef)/\((madeCells z0.cells (N*td.size)).getD q Go.undef).oneCell'=true:=by
       intro q hq;have hq':q<N*td.size:=by simpa [hfl] using hq
       have hqm:q%td.size<td.size:=Nat.mod_lt _ hpos;have hqd:q / td.size<N:=by rw [Nat.div_lt_iff_lt_mul hpos];exact hq'
       have hqq:q / td.size*td.size+q%td.size=q:=by rw [Nat.mul_comm];exact Nat.div_add_mod _ _
       have hfg:=a0H hu (i:=q / td.size) (y:=y) (by rw [List.getElem?_replicate,if_pos hqd]) (q%td.size) hqm;rw [hqq,zp1 hq,zp1 (by omega)] at hfg;rw [Option.some.inj hfg,hget q hq'];exact hzr _ _ _
      exact ⟨_,e,by rw [hβ];exact hO,by rw [hβ];exact heap_alloc_new,hu,by rw [size_madeCells,hfl];simp,fun q hq=>(each q hq).2,fun q hq=>(each q hq).1⟩
     have:=RepV.mref (G:=G') (w:=w.alloc (.cells (madeCells z0.cells (N*td.size)) e (0,0))) (.s d) σ.heap.length td.size 0 (N:Int) w.heap.size 0 N (by omega) (Int.le_refl _) (by omega) (by simp) (fun _=>⟨hβ.symm,by simp⟩);simpa using this
    cases h
   cases h
  cases h
 cases h
theorem b3a {t:TypeId} {x ix:Operand} {ok:Bool} (hop:o.op = .lookup t x ix ok) (h:a0L Ar.std T σ.n g H o=some (some (ss,h'))):a0f P σ o ss h':=by
 have hnd : ∀ c,o.op ≠ .defer c:=by simp [hop]
 simp only [a0L,hop,zp3] at h;split at h
 ·rename_i sz kt et z a0 ht hx;split at h
  ·rename_i ks tk te ag ks' es k hks htk hte hHi hk;split at h
   ·rename_i hc;simp [a3p] at hc;obtain ⟨⟨rfl,hkc⟩,rfl⟩:=hc;have hσ:=hH _ _ hHi

    have run : ∀ G a w,Rel G σ a w -> ∃ v b,(Instr.lookup t (a.eval x) (a.eval ix) ok).run P w = .ok (if ok then .tuple #[v,.bool b] else v) w /\
      ((b=true /\ ∃ d,mget es k=some d/\RepD G.K d v)\/(b=false/\mget es k=none /\ ∀ d,a6p te=some d->RepD G.K d v)):=by
     intro G a w R;obtain ⟨hv,hnh⟩:=a7g hg R hx;have hrk:=a0z hg R hk;have hkv:=a2v hkc hrk;obtain ⟨ms,clock,hO,hw,he,_⟩:=R.h.objs a0 _ hσ;have hck:=a3U hT ms.isEmpty hks htk (xs:=k.cells) (by simp only [a0F,zp4] at hkc;exact hkc.1) 10000 (by omega) w;obtain ⟨ie,de,hie,hde,hisz,hbytes,hu,z0,hz0,hz1,hz2,hz3⟩:=hT.info hte;rcases a4B hT hks htk (Nat.le_refl 8) hkc w he with ⟨h1,h2,h3⟩ | ⟨j,e,p,h1,h2,h3,h4,h5,h6⟩
     ·refine ⟨z0,false,?_,.inr ⟨rfl,h2,fun d hd => ?_⟩⟩
      ·rw [hv,hkv];simp [Instr.lookup,run_underlying (hT.map' ht),MapKept.run_getObj_map hw,hck,h1,zeroValue,typeInfo,hie,hz0]
      exact b2Z hT hte hd hie hz0 G.K
     refine ⟨e.val,true,?_,.inl ⟨rfl,p.2,h5,(he.get h3 h2).2.2⟩⟩;rw [hv,hkv];simp [Instr.lookup,run_underlying (hT.map' ht),MapKept.run_getObj_map hw,hck,h1]
    have fin : ∀ (d:D) (b:Bool),put σ.n g o.dst (bif ok then .tuple [.d d,.d (.bool b)] else .d d)=some (ss,h') ->
      (∀ G a w,Rel G σ a w -> ∃ v,(Instr.lookup t (a.eval x) (a.eval ix) ok).run P w = .ok (if ok then .tuple #[v,.bool b] else v) w/\RepD G.K d v)->a0f P σ o ss h':=by
     intro d b hp hr;refine a0c hgd hp hnd ?_ ?_
     ·intro r off e;cases ok <;> simp at e
     intro G a w R;obtain ⟨v,hv,hrep⟩:=hr G a w R;refine ⟨_,by simp [execOp,hop,hv];rfl,fun dd => ?_⟩;cases ok with
     | false=>exact .d _ _ _ hrep
     | true =>
       refine .tuple _ _ _ rfl (fun i hi => ?_) (by simp [AV.isLocal])
       match i,hi with
       | 0,_=>exact .d _ _ _ hrep
       | 1,_=>exact .d _ _ _ (.bool b)
       | i+2,hi=>simp at hi;omega
    cases hm:mget es k with
    | some d =>
      simp only [Ar.std,hm] at h;refine fin d true h fun G a w R => ?_;obtain ⟨v,b,h1,⟨rfl,d',h2,h3⟩ | ⟨_,h2,_⟩⟩:=run G a w R
      ·rw [hm] at h2;cases h2;exact ⟨v,h1,h3⟩
      rw [hm] at h2;cases h2
    | none =>
      simp only [Ar.std,hm] at h;split at h
      ·rename_i d hd;refine fin d false h fun G a w R => ?_;obtain ⟨v,b,h1,⟨_,d',h2,h3⟩ | ⟨rfl,h2,h3⟩⟩:=run G a w R
       ·rw [hm] at h2;cases h2
       exact ⟨v,h1,h3 d hd⟩
      cases h
   cases h
  cases h
 cases h
theorem a9q {t:TypeId} {x ix:Operand} (hop:o.op = .mapEntry t x ix) (h:a0L Ar.std T σ.n g H o=some (some (ss,h'))):a0f P σ o ss h':=by
 have hnd : ∀ c,o.op ≠ .defer c:=by simp [hop]
 simp only [a0L,hop,zp3] at h;split at h
 ·rename_i sz kt et z a0 ht hx;split at h
  ·rename_i ks tk ag ks' es k hks htk hHi hk;split at h
   ·rename_i hc;simp [a3p] at hc;obtain ⟨⟨rfl,hkc⟩,rfl⟩:=hc;have hσ:=hH _ _ hHi;split at h
    ·rename_i v hm;replace hm:mget es k=some v:=hm;refine a0c hgd h hnd (by intro r off e;cases e) ?_;intro G a w R;obtain ⟨hv,hnh⟩:=a7g hg R hx;have hrk:=a0z hg R hk;have hkv:=a2v hkc hrk;obtain ⟨ms,clock,hO,hw,he,hB⟩:=R.h.objs a0 _ hσ;have hck:=a3U hT false hks htk (xs:=k.cells) (by simp only [a0F,zp4] at hkc;exact hkc.1) 10000 (by omega) w;rcases a4B hT hks htk (Nat.le_refl 8) hkc w he with ⟨h1,h2,h3⟩ | ⟨j,e,p,h1,h2,h3,h4,h5,h6⟩
     ·rw [hm] at h2;cases h2
     have hme:ms[j]?=some e:=by simpa using h2
     obtain ⟨hj,hje⟩:=Array.getElem?_eq_some_iff.1 hme;have hek:=(he.get h3 h2).2.1;have hval:=(he.get h3 h2).2.2;rw [h4] at hek;have hkey:(Instr.keyThatStays e.key (mkV tk.isAgg k.cells)).run P w = .ok (mkV tk.isAgg k.cells) w:=by
      have hsb:Instr.sameBits 10000 (mkV tk.isAgg k.cells) (mkV tk.isAgg k.cells)=true:=a5G hkc;simp [Instr.keyThatStays,hek,hsb]
     have hsame:(ms.modify j fun e=>{ e with key:=mkV tk.isAgg k.cells })=ms:=by
      apply Array.ext_getElem?;intro i;rw [Array.getElem?_modify];by_cases hji:j=i
      ·subst hji;have:({ e with key:=mkV tk.isAgg k.cells }:MapEntry)=e:=by rw [<-hek]
       simp [hme,this]
      simp [hji]
     have hworld:({ w with heap:=w.heap.setIfInBounds (G.β (.o a0)) (.map ms clock) }:World)=w:=by
      have:w.heap.setIfInBounds (G.β (.o a0)) (.map ms clock)=w.heap:=by
       apply Array.ext_getElem?;intro i;rw [Array.getElem?_setIfInBounds];by_cases hi:G.β (.o a0)=i
       ·subst hi;obtain ⟨hlt,hwe⟩:=Array.getElem?_eq_some_iff.1 hw;simp [hlt,hwe]
       simp [hi]
      rw [this]
     have hj2:midx es k=j:=b7W h3 h4 h6;have hborn:e.born=j:=hB.2 j e hme;have hpv:p.2=v:=by rw [hm] at h5;cases h5;rfl
     refine ⟨.tuple #[e.val,goInt e.born],?_,fun dd => ?_⟩
     ·simp only [execOp,hop];rw [hv,hkv];simp [Instr.mapEntry,run_underlying (hT.map' ht),MapKept.run_getObj_map hw,hck,h1,hme,hkey,hsame,MapKept.run_setObj_map _ hw,hworld]
     refine .tuple _ _ _ rfl (fun i hi => ?_) (by simp [AV.isLocal])
     match i,hi with
     | 0,_=>exact .d _ _ _ (hpv▸hval)
     | 1,_ =>
       have hz:Ar.std.midx es k=(e.born:Int):=by show ((midx es k:Nat):Int)=_;rw [hj2,hborn]
       rw [show (([AV.d v,AV.d (.int .i64 (Ar.std.midx es k))]:List AV)[1])=AV.d (.int .i64 (e.born:Int)) by rw [<-hz];rfl];exact .d _ _ _ (.int _ _)
     | i+2,hi=>simp at hi;omega
    cases h
   cases h
  cases h
 cases h
theorem a7h {t:TypeId} {x s y:Operand} (hop:o.op = .entryStore t x s y) (h:a0L Ar.std T σ.n g H o=some (some (ss,h'))) (hHe:H=σ.heap):a0f P σ o ss h':=by
 have hnd : ∀ c,o.op ≠ .defer c:=by simp [hop]
 subst hHe;simp only [a0L,hop,zp3] at h;split at h
 ·rename_i sz kt et z a0 ht hx hdst;split at h
  ·rename_i ag ks es zz v hHi hs hv;split at h
   ·rename_i hc;have hc:decide (0<=zz/\zz<(es.length:Int))=true:=hc;simp at hc;simp only [zp3,Prod.mk.injEq] at h;obtain ⟨rfl,rfl⟩:=h;intro r n m G a w Q next hm R hn
    obtain ⟨hmv,hnh⟩:=a7g hg R hx;have hrs:=a0z hg R hs;have hrv:=a0z hg R hv;obtain ⟨ms,clock,hO,hw,he,hB⟩:=R.h.objs a0 _ hHi;have hil:a0<σ.heap.length:=(zp2.1 hHi).1;obtain ⟨N,rfl⟩:=zp9 hc.1;have hsv:a.eval s = .int .i64 N:=by generalize a.eval s=vs at hrs;cases hrs;rfl
    have hN:N<ms.size:=by have:=he.size;simp at this;omega
    have hidx:ms.findIdx? (fun e=>(e.born:Int) == (N:Int))=some N:=by
     rw [Array.findIdx?_eq_some_iff_getElem];refine ⟨hN,?_,?_⟩
     ·have:=hB.2 N ms[N] (by simp [hN]);simp [this]
     intro j hj;have hj':j<ms.size:=by omega
     have:=hB.2 j ms[j] (by simp [hj']);simp [this];omega
    obtain ⟨e,hme⟩ : ∃ e,ms[N]?=some e:=⟨_,Array.getElem?_eq_getElem hN⟩;obtain ⟨p,hp⟩ : ∃ p,es[N]?=some p:=⟨_,zp1 (by omega)⟩;have hent:EntRep G.K ag ks (Ar.std.mset es (N:Int) v) (ms.modify N fun e=>{ e with val:=a.eval y }).toList:=by
     have h0:=he.get hp (by simpa using hme);have:=he.set (p:=(p.1,v)) (m:={ e with val:=a.eval y }) ⟨h0.1,h0.2.1,hrv⟩ N
     have heq:(ms.modify N fun e=>{ e with val:=a.eval y }).toList=ms.toList.set N { e with val:=a.eval y }:=by
      apply List.ext_getElem?;intro i;rw [Array.getElem?_toList,Array.getElem?_modify,List.getElem?_set];by_cases hji:N=i
      ·subst hji;obtain ⟨_,he2⟩:=Array.getElem?_eq_some_iff.1 hme;simp [hN,he2]
      simp [hji]
     have heq2:Ar.std.mset es (N:Int) v=es.set N (p.1,v):=by
      show es.modify (N:Int).toNat (fun p=>(p.1,v))=_;apply List.ext_getElem?;intro i;rw [Int.toNat_natCast,List.getElem?_modify,List.getElem?_set];by_cases hji:N=i
      ·subst hji;obtain ⟨hl2,he2⟩:=zp2.1 hp;simp [hl2,he2]
      simp [hji]
     rw [heq,heq2];exact this
    obtain ⟨hcore,hext⟩:=a5F R (i:=a0) (ob := .map ag ks (Ar.std.mset es (N:Int) v)) (wo' := .map (ms.modify N fun e=>{ e with val:=a.eval y }) clock) hil hO hw
     (fun x hx y hy ad hab=>by unfold World.frozen?;rw [hab,hx,hy])
     (fun w' hw'=>⟨_,clock,hO,hw',hent,hB.modify N _ fun _=>rfl⟩)
    refine a1P hnd ?_ (hn G _ _ ?_ (hext m))
    ·simp only [execOp,hop];rw [hmv,hsv];simp [Instr.entryStore,MapKept.run_getObj_map hw,asInt,asIntOf,hidx,MapKept.run_setObj_map _ hw]
    rw [hdst];simpa [Act.put] using hcore
   cases h
  cases h
 cases h
theorem a4T {t:TypeId} {x ix y:Operand} (hop:o.op = .mapUpdate t x ix y\/o.op = .insert t x ix y) (h:a0L Ar.std T σ.n g H o=some (some (ss,h'))) (hHe:H=σ.heap):a0f P σ o ss h':=by
 have hnd : ∀ c,o.op ≠ .defer c:=by rcases hop with hop | hop <;> simp [hop]
 subst hHe;have h:a0L Ar.std T σ.n g σ.heap { o with op := .mapUpdate t x ix y }=some (some (ss,h')):=by
  rw [<-h];rcases hop with hop | hop <;> simp only [a0L,hop]
 simp only [a0L,zp3] at h;split at h
 ·rename_i sz kt et z a0 ht hx hdst;split at h
  ·rename_i ks tk ag ks' es k v hks htk hHi hk hv;split at h
   ·rename_i hc;simp [a3p] at hc;obtain ⟨⟨rfl,hkc⟩,rfl⟩:=hc;simp only [Ar.std,zp3,Prod.mk.injEq] at h;obtain ⟨rfl,rfl⟩:=h;intro r n m G a w Q next hm R hn
    obtain ⟨hmv,hnh⟩:=a7g hg R hx;have hrk:=a0z hg R hk;have hrv:=a0z hg R hv;have hkv:=a2v hkc hrk;obtain ⟨ms,clock,hO,hw,he,hB⟩:=R.h.objs a0 _ hHi;have hck:=a3U hT false hks htk (xs:=k.cells) (by simp only [a0F,zp4] at hkc;exact hkc.1) 10000 (by omega) w;have hil:a0<σ.heap.length:=(zp2.1 hHi).1;have fin : ∀ (ms':Array MapEntry) (clock':Nat),(Instr.mapUpdate t (a.eval x) (a.eval ix) (a.eval y)).run P w = .ok () { w with heap:=w.heap.setIfInBounds (G.β (.o a0)) (.map ms' clock') } ->
      EntRep G.K tk.isAgg ks' (mput es k v) ms'.toList->b6R ms' clock'->o.wpIn (Wd r) n P a w next Q:=by
     intro ms' clock' hrun hent hB' ;obtain ⟨hcore,hext⟩:=a5F R (i:=a0) (ob := .map tk.isAgg ks' (mput es k v)) (wo' := .map ms' clock') hil hO hw
      (fun x hx y hy ad hab=>by unfold World.frozen?;rw [hab,hx,hy])
      (fun w' hw'=>⟨ms',clock',hO,hw',hent,hB'⟩)
     refine a1P hnd (by rcases hop with hop | hop <;> simp only [execOp,hop] <;> simp [hrun]) (hn G _ _ ?_ (hext m))
     rw [hdst];simpa [Act.put] using hcore
    rcases a4B hT hks htk (Nat.le_refl 8) hkc w he with ⟨h1,h2,h3⟩ | ⟨j,e,p,h1,h2,h3,h4,h5,h6⟩
    ·refine fin (ms.push { key:=a.eval ix,val:=a.eval y,born:=clock }) (clock+1) ?_ ?_ (hB.push _ rfl)
     ·rw [hmv,hkv];simp [Instr.mapUpdate,run_underlying (hT.map' ht),MapKept.run_getObj_map hw,hck,h1,MapKept.run_setObj_map _ hw]
     rw [h3];simpa using he.push (p:=(k,v)) (m:={ key:=a.eval ix,val:=a.eval y,born:=clock }) ⟨hkc,hkv,hrv⟩
    have hme:ms[j]?=some e:=by simpa using h2
    have hek:=(he.get h3 h2).2.1;rw [h4] at hek;have hkey:(Instr.keyThatStays e.key (mkV tk.isAgg k.cells)).run P w = .ok (mkV tk.isAgg k.cells) w:=by
     have hsb:Instr.sameBits 10000 (mkV tk.isAgg k.cells) (mkV tk.isAgg k.cells)=true:=a5G hkc;simp [Instr.keyThatStays,hek,hsb]
    refine fin (ms.modify j fun e=>{ e with key:=mkV tk.isAgg k.cells,val:=a.eval y }) clock ?_ ?_ (hB.modify j _ fun _=>rfl)
    ·rw [hmv,hkv];simp [Instr.mapUpdate,run_underlying (hT.map' ht),MapKept.run_getObj_map hw,hck,h1,hme,hkey,MapKept.run_setObj_map _ hw]
    rw [h6];have:=he.set (p:=(k,v)) (m:={ e with key:=mkV tk.isAgg k.cells,val:=a.eval y }) ⟨hkc,rfl,hrv⟩ j
    obtain ⟨hj,hje⟩:=Array.getElem?_eq_some_iff.1 hme;have heq:(ms.modify j fun e=>{ e with key:=mkV tk.isAgg k.cells,val:=a.eval y }).toList=ms.toList.set j { e with key:=mkV tk.isAgg k.cells,val:=a.eval y }:=by
     apply List.ext_getElem?;intro i;rw [Array.getElem?_toList,Array.getElem?_modify,List.getElem?_set];by_cases hji:j=i
     ·subst hji;simp [hme,hj,hje]
     simp [hji]
    rw [heq];exact this
   cases h
  cases h
 cases h
theorem b5o {op:BinOp} {neg:Bool} (hneg:op=if neg then .neq else .eql) {t t':TypeId} {x y:Operand} (hop:o.op = .binOp op t x y t') {A B:D} (hx:opD T g 0 x=some A) (hy:opD T g 0 y=some B)
  (h:b6P Ar.std T σ.n g o.dst t A B neg=some (ss,h')):a0f P σ o ss h':=by
 have hnd : ∀ c,o.op ≠ .defer c:=by simp [hop]
 unfold b6P at h;split at h
 ·rename_i td ks r ht hks hr;split at h
  ·rename_i hc;simp only [zp4] at hc;refine a0c hgd h hnd (AV.free_place rfl) ?_;intro G a w R;have h1:=a2v hc.1 (a0z hg R hx);have h2:=a2v hc.2 (a0z hg R hy);obtain ⟨r',hr',hiff⟩:=a7d hT hks ht (Nat.le_refl 8) hc.1 hc.2 w;have hrr:r'=r:=by
    have:r=true↔A=B:=by
     unfold eqD at hr;split at hr
     ·cases hr;simp [Ar.std]
     ·cases hr;simp [Ar.std]
     cases hr
    cases r <;> cases r' <;> simp_all
   subst hrr;have hgu:(eqGuard op t x y (a.eval x) (a.eval y)).run P w = .ok () w:=by
    rw [h1,h2];cases hagg:td.isAgg with
    | true =>
      obtain ⟨de,hde,hek⟩:=hT.eqKnown ht;simp only [eqKnown,zp4,decide_eq_true_eq] at hek;simp only [mkV,if_true];exact run_eqGuard_agg w op t x y _ _ (b1U hT hks _ hek.1)
    | false =>
      simp only [mkV,Bool.false_eq_true,if_false];unfold eqD at hr;split at hr
      ·simp only [D.cells,D.sval];unfold eqGuard;cases neg <;> simp at hneg <;> subst hneg <;> simp
      ·simp [a0F,hagg] at hc
      cases hr
   refine ⟨.bool (bif neg then !r' else r'),?_,fun d => .d _ _ _ (.bool _)⟩
   have hb:(Go.binOp op t (a.eval x) (a.eval y)).run P w = .ok (.bool (bif neg then !r' else r')) w:=by
    rw [h1,h2];have hnp : ∀ d:D,(eqD Ar.std A B=some r')->True:=fun _ _=>trivial;unfold eqD at hr;split at hr
    ·have hna:td.isAgg=false:=by
      have:=hc.1;simp [a0F] at this;exact this.2
     simp only [mkV,hna,Bool.false_eq_true,if_false,D.cells,D.sval] at hr' ⊢;cases neg <;> simp at hneg <;> subst hneg <;> simp [Go.binOp,hr']
    ·have hna:td.isAgg=true:=by
      have:=hc.1;simp [a0F] at this;exact this.2
     simp only [mkV,hna,if_true,D.cells] at hr' ⊢;cases neg <;> simp at hneg <;> subst hneg <;> simp [Go.binOp,hr']
    cases hr
   simp [execOp,hop,hgu,hb]
  cases h
 cases h
theorem c0i {t:TypeId} {x:Operand} {t':TypeId} (hop:o.op = .binOp .eql t x (.const (.slice none 0 0)) t') {sz:Nat} {e:TypeId} {z:List AV} (ht:T t=some ⟨sz,.slice e,z⟩) {k:Nat} {l:List D} (hx:opD T g t x=some (.list k l))
  (h:put σ.n g o.dst (bif Ar.std.zlt 0 (Ar.std.len l) then .d (.bool false) else .abool)=some (ss,h')):a0f P σ o ss h':=by
 have hnd : ∀ c,o.op ≠ .defer c:=by simp [hop]
 refine a0c hgd h hnd (AV.free_place (by cases Ar.std.zlt 0 (Ar.std.len l) <;> rfl)) ?_;intro G a w R;have hr:=a0z hg R hx;have hsl : ∃ b cap,a.eval x = .slice b l.length cap/\(0<l.length->b.isNone=false):=by
  rcases hr.slice with ⟨rfl,oa,hv⟩ | ⟨b,off,cap,hv⟩
  ·exact ⟨_,_,hv,fun h=>by simp at h⟩
  exact ⟨_,_,hv,fun _=>rfl⟩
 obtain ⟨b,cap,hv,hb⟩:=hsl;refine ⟨.bool b.isNone,?_,fun d => ?_⟩
 ·have he:=run_equal_slice_nil (P:=P) w t e b l.length cap (hT.slice ht);have hgd:(eqGuard .eql t x (.const (.slice none 0 0)) (.slice b l.length cap) (.slice none 0 0)).run P w = .ok () w:=by
   unfold eqGuard;simp
  have hbo:(Go.binOp .eql t (.slice b l.length cap) (.slice none 0 0)).run P w = .ok (.bool b.isNone) w:=by
   simp [Go.binOp,he]
  have hc:a.eval (.const (.slice none 0 0)) = .slice none 0 0:=rfl;simp [execOp,hop,hv,hc,hgd,hbo]
 by_cases h0:0<l.length
 ·have:Ar.std.zlt 0 (Ar.std.len l)=true:=decide_eq_true (by show (0:Int)<(l.length:Int);omega);rw [this,hb h0];exact .d _ _ _ (.bool _)
 have:Ar.std.zlt 0 (Ar.std.len l)=false:=decide_eq_false (by show ¬ (0:Int)<(l.length:Int);omega);rw [this];exact .abool _ _
theorem a8n {mx:Bool} {args:Array Operand} {ts:Array TypeId} (hop:o.op = .call { callee := .builtin (if mx then .max else .min),args:=args,argTypes:=ts }) {x y:Operand} (hargs:args.toList=[x,y]) {k:IntKind} {A B:Int}
  (hx:opD T g 0 x=some (.int k A)) (hy:opD T g 0 y=some (.int k B)) (h:put σ.n g o.dst (.d (.int k (if mx then Ar.std.zmax A B else Ar.std.zmin A B)))=some (ss,h')):a0f P σ o ss h':=by
 have hnd : ∀ c,o.op ≠ .defer c:=by simp [hop]
 obtain rfl:args = #[x,y]:=by cases args;simp_all
 refine a0c hgd h hnd (AV.free_place rfl) ?_;intro G a w R;have h1:=a0z hg R hx;have h2:=a0z hg R hy;generalize hv1:a.eval x=v1 at h1;generalize hv2:a.eval y=v2 at h2;cases h1;cases h2;refine ⟨_,?_,fun d => .d _ _ _ (.int _ _)⟩;cases mx
 ·simp [execOp,hop,resolve,invoke,Go.builtin,Builtin.min_,Builtin.min2,hv1,hv2,Ar.std]
 simp [execOp,hop,resolve,invoke,Go.builtin,Builtin.max_,Builtin.max2,hv1,hv2,Ar.std]
end
theorem b5p {P:Program} {T:a0i} (hT:TOk P T) {σ:St} {g:Nat->AV} {o:Oper} {ss:a1C} {h':Option (List Obj)} {H:List Obj} {an:Ann}
  (hg:Less g σ) (hgd : ∀ d,o.dst=some d->g d=σ.get d) (hH : ∀ (i:Nat) (ob:Obj),H[i]?=some ob->σ.heap[i]?=some ob) (hHe:a0P an g o=true->H=σ.heap)
  (h:a0L Ar.std T σ.n g H o=some (some (ss,h'))):a0f P σ o ss h':=by
 have h0:=h;have tmp : ∀ {x:Operand} {c:AV},a1M g x=c->c ≠ .undef -> ∃ s,x = .tmp s/\g s=c:=fun h hc=>a2w h hc;cases hop:o.op with
 | indexAddr t x i=>exact a8j hT hg hgd hH hop h
 | fieldAddr t x f=>exact a8k hT hg hgd hH hop h
 | load t x=>exact b7V hT hg hgd hH hop h
 | store t x y =>
   refine b5m hT hg hgd hH hop h (hHe ?_);simp only [a0L,hop] at h0;split at h0
   ·rename_i hx;unfold a5d at hx;split at hx
    ·rename_i hb;obtain ⟨s,rfl,hs⟩:=tmp hb (by simp);simp [a0P,hop,hs]
    obtain ⟨s,rfl,hs⟩:=tmp hx (by simp);simp [a0P,hop,hs]
   cases h0
 | slice t x a b c=>exact b5l hT hg hgd hH hop h
 | makeSlice t a b=>exact a8m hT hg hgd hH hop h (hHe (by simp [a0P,hop]))
 | makeInterface t x=>exact a5e hT hg hgd hH hop h
 | makeMap t r=>exact b1X hT hg hgd hH hop h (hHe (by simp [a0P,hop]))
 | lookup t x ix ok=>exact b3a hT hg hgd hH hop h
 | mapEntry t x ix=>exact a9q hT hg hgd hH hop h
 | entryStore t x s y =>
   refine a7h hT hg hgd hH hop h (hHe ?_);simp only [a0L,hop,zp3] at h0;split at h0
   ·rename_i hx _;obtain ⟨s,rfl,hs⟩:=tmp hx (by simp);simp [a0P,hop,hs]
   cases h0
 | mapUpdate t x ix y =>
   refine a4T hT hg hgd hH (.inl hop) h (hHe ?_);simp only [a0L,hop,zp3] at h0;split at h0
   ·rename_i hx _;obtain ⟨s,rfl,hs⟩:=tmp hx (by simp);simp [a0P,hop,hs]
   cases h0
 | insert t x ix y =>
   refine a4T hT hg hgd hH (.inr hop) h (hHe ?_);simp only [a0L,hop,zp3] at h0;split at h0
   ·rename_i hx _;obtain ⟨s,rfl,hs⟩:=tmp hx (by simp);simp [a0P,hop,hs]
   cases h0
 | binOp op t x y t' =>
   cases op with
   | eql =>
     simp only [a0L,hop] at h;split at h
     ·split at h
      ·rename_i ht hx;simp only [zp3] at h;exact b7X hT hg hgd hH hop ht hx h
      cases h
     ·split at h
      ·rename_i ht hx;simp only [zp3] at h;exact c0i hT hg hgd hH hop ht hx h
      cases h
     split at h
     ·rename_i hx hy;simp only [zp3] at h;exact b5o hT hg hgd hH (neg:=false) rfl hop hx hy h
     ·rename_i hx hy;simp only [zp3] at h;exact b5o hT hg hgd hH (neg:=false) rfl hop hx hy h
     cases h
   | neq =>
     simp only [a0L,hop] at h;split at h
     ·rename_i hx hy;simp only [zp3] at h;exact b5o hT hg hgd hH (neg:=true) rfl hop hx hy h
     ·rename_i hx hy;simp only [zp3] at h;exact b5o hT hg hgd hH (neg:=true) rfl hop hx hy h
     cases h
   | _=>simp [a0L,hop] at h
 | call c =>
   obtain ⟨callee,args,ts⟩:=c;cases callee with
   | builtin b =>
     cases b with
     | len=>exact c0h hT hg hgd hH hop h
     | clear =>
       refine b5n hT hg hgd hH hop h (hHe ?_);simp only [a0L,hop,zp3] at h0;split at h0
       ·rename_i x t hargs hts;split at h0
        ·rename_i hx _;obtain ⟨s,rfl,hs⟩:=tmp hx (by simp);simp [a0P,hop,hargs,hs]
        cases h0
       cases h0
     | min =>
       simp only [a0L,hop,zp3] at h;split at h
       ·rename_i x y hargs;split at h
        ·rename_i k a k' b hx hy;split at h
         ·rename_i hk;subst hk;exact a8n hT hg hgd hH (mx:=false) hop hargs hx hy h
         cases h
        cases h
       cases h
     | max =>
       simp only [a0L,hop,zp3] at h;split at h
       ·rename_i x y hargs;split at h
        ·rename_i k a k' b hx hy;split at h
         ·rename_i hk;subst hk;exact a8n hT hg hgd hH (mx:=true) hop hargs hx hy h
         cases h
        cases h
       cases h
     | _=>simp [a0L,hop] at h
   | _=>simp [a0L,hop] at h
 | _=>simp [a0L,hop] at h
theorem b3b {A:Ar} {T:a0i} {n:Nat} {g:Nat->AV} {H H':List Obj} {o:Oper} {ss:a1C} (h:a0L A T n g H o=some (some (ss,some H'))):H.length<=H'.length:=by
 have hput : ∀ {dst:Option Tmp} {v:AV},Am.put n g dst v≠some (ss,some H'):=by
  intro dst v e;have:=(a0G e).1;cases this
 have hputO : ∀ {dst:Option Tmp} {v:Option AV},a5i n g dst v≠some (ss,some H'):=by
  intro dst v e;obtain ⟨x,_,e⟩:=a1o e;exact hput e
 have hmap2 : ∀ {dst:Option Tmp} {v:AV} {q:a1C×Option (List Obj)->a1C} {H1:List Obj},H1.length=H.length->Option.map (fun p=>(q p,some H1)) (Am.put n g dst v)=some (ss,some H')->H.length<=H'.length:=by
  intro dst v q H1 hl e;simp only [Option.map_eq_some_iff] at e;obtain ⟨⟨s1,h1⟩,e1,e2⟩:=e;simp at e2;rw [<-e2.2,hl];exact Nat.le_refl _
 have heq : ∀ {dst:Option Tmp} {t:TypeId} {a b:D} {ng:Bool},b6P A T n g dst t a b ng≠some (ss,some H'):=by
  intro dst t a b ng e;unfold b6P at e;split at e
  ·split at e
   ·exact hput e
   cases e
  cases e
 unfold a0L at h
 (repeat' split at h)
 all_goals (try simp only [zp3] at h)
 all_goals first
  | (cases h;done)
  | (exact absurd h hput)
  | (exact absurd h hputO)
  | (exact absurd h heq)
  | (exact hmap2 (by simp) h)
  | (simp at h;done)
  | (simp at h;rw [<-h.2];simp;done)
  | (simp at h;obtain ⟨_,rfl⟩:=h;simp;done)
theorem b5q {z:D} {c:AV} (h:b7R z c=true):c = .d z:=by
 unfold b7R at h;split at h <;> simp at h
 ·obtain ⟨rfl,rfl⟩:=h;rfl
 rw [h]
theorem b7Y {zs:List AV} {z:D} (h:c3j zs=some z):zs=List.replicate zs.length (.d z):=by
 unfold c3j at h;split at h
 ·rename_i z' r;split at h
  ·rename_i hr;cases h;rw [List.all_eq_true] at hr;refine List.eq_replicate_iff.2 ⟨rfl,fun c hc => ?_⟩;rcases List.mem_cons.1 hc with rfl | hc
   ·rfl
   exact b5q (hr c hc)
  cases h
 cases h
theorem a6B : ∀ {cs:List AV} {ds:List D},a0N cs=some ds->ds.length=cs.length /\ ∀ (j:Nat) (hj:j<ds.length) (hj':j<cs.length),∀ {G:Gh} {w:World} {ℓ:Loc} {v:Value},RepV G w ℓ cs[j] v->RepD G.K ds[j] v
 | [],ds,h=>by cases h;exact ⟨rfl,fun j hj=>by simp at hj⟩
 | c::r,ds,h=>by
   have step : ∀ {x:D},(∀ {G:Gh} {w:World} {ℓ:Loc} {v:Value},RepV G w ℓ c v->RepD G.K x v)->(a0N r).map (x :: ·)=some ds->ds.length=(c::r).length /\ ∀ (j:Nat) (hj:j<ds.length) (hj':j<(c::r).length),∀ {G:Gh} {w:World} {ℓ:Loc} {v:Value},RepV G w ℓ (c::r)[j] v->RepD G.K ds[j] v:=by
    intro x hx h;rw [Option.map_eq_some_iff] at h;obtain ⟨ds',h1,rfl⟩:=h;obtain ⟨i1,i2⟩:=a6B h1;refine ⟨by simp [i1],fun j hj hj' => ?_⟩;intro G w ℓ v hv;cases j with
    | zero=>exact hx hv
    | succ j=>exact i2 j (by simpa using hj) (by simpa using hj') hv
   cases c with
   | d x=>exact step (fun hv=>by cases hv;assumption) (by simpa [a0N] using h)
   | own k l=>exact step (fun hv=>by cases hv;assumption) (by simpa [a0N] using h)
   | lim k l=>exact step (fun hv=>by cases hv;assumption) (by simpa [a0N] using h)
   | tail k l=>exact step (fun hv=>by cases hv;assumption) (by simpa [a0N] using h)
   | _=>simp [a0N] at h
theorem a5H {l:List D} (h : ∀ x∈l,x.isOne=true):a0k 1 l:=fun x hx=>by rw [a1G (h x hx)];rfl
theorem b7Z (l:List D) (p n:Nat):Ar.std.sub l (p:Int) ((p:Int)+n)=(l.drop p).take n:=by
 show (l.drop (p:Int).toNat).take (((p:Int)+n).toNat-(p:Int).toNat)=_;congr 1
 ·omega
theorem b8a {K:Addr->Option Value} {cs:List D} {vs:Array Value} (hs:vs.size=cs.length) (hh : ∀ (i:Nat) (hi:i<cs.length),RepD K cs[i] (vs.getD i undef)) (h1 : ∀ v∈vs,v.oneCell'=true) (p n:Nat) :
  RepD K (.agg ((cs.drop p).take n)) (.agg (vs.extract p (p+n))):=by
 refine .agg _ _ (by simp [hs];omega) (fun i hi => ?_) (fun v hv=>h1 v ?_)
 ·simp at hi;have e1:((cs.drop p).take n)[i]'(by simp;omega)=cs[p+i]'(by omega):=by simp
  rw [e1];have:=hh (p+i) (by omega);simp only [zp5] at this ⊢;rw [Array.getElem?_extract,if_pos (by omega)];exact this
 rw [Array.mem_iff_getElem] at hv;obtain ⟨i,hi,rfl⟩:=hv;simp at hi ⊢
section
variable {P:Program} {T:a0i} (hT:TOk P T) {σ:St} {g:Nat->AV} {o:Oper} {ss:a1C} {h':Option (List Obj)} {H:List Obj}
 (hg:Less g σ) (hgd : ∀ d,o.dst=some d->g d=σ.get d)
include hT hg hgd
theorem a7i {t:TypeId} {td:TD} (ht:T t=some td) {cs:List D} {p:Nat} {i j:Int} {y:D} (hi:i=p) (hj:j=(p:Int)+td.size) (h:a9m Ar.std td cs p i j=some y)
  {K:Addr->Option Value} {vs:Array Value} {w:World} (hs:vs.size=cs.length) (hh : ∀ (i:Nat) (hi:i<cs.length),RepD K cs[i] (vs.getD i undef)) (h1 : ∀ v∈vs,v.oneCell'=true) :
  ∃ v,(part t vs p).run P w = .ok v w/\RepD K y v:=by
 unfold part;simp only [Sem.run_bind,hT.isAgg ht,Result.andThen_ok];unfold a9m at h;by_cases hagg:td.isAgg=true
 ·rw [if_pos hagg] at h;cases h;simp only [hagg,if_true,Sem.run_bind,hT.size ht,Result.andThen_ok,Sem.run_pure];refine ⟨_,rfl,?_⟩;subst hi hj;rw [b7Z];exact b8a hs hh h1 p td.size
 rw [if_neg hagg] at h;have hp:cs[p]?=some y:=h;obtain ⟨hlt,rfl⟩:=zp2.1 hp;simp only [hagg,Bool.false_eq_true,if_false];have hget:vs[p]?=some (vs.getD p Go.undef):=by simp [zp5,show p<vs.size by omega]
 exact ⟨vs.getD p Go.undef,by rw [hget];simp,hh p hlt⟩
theorem a9r {x:Operand} (hop:o.op = .nilCheck x) {an:Ann} (h:a2r Ar.std T an σ.n g H o=some (some (ss,h'))):a0f P σ o ss h':=by
 simp only [a2r,hop,zp3] at h;split at h
 ·rename_i a0 k i j hx;refine a0c hgd h (by simp [hop]) (AV.free_place rfl) ?_;intro G a w R;obtain ⟨hv,hnh,hi⟩:=eptr_val hg R hx;exact ⟨_,by simp [execOp,hop,hv],fun d => .eptr _ _ _ _ _ hnh hi⟩
 split at h
 ·rename_i A hA;intro r n m G a w Q next hm R hn
  have hAr:=a2L hg R hA;refine a0c hgd h (by simp [hop]) (hAr.up_place _) ?_ r n m G a w Q next hm R hn
  intro G a w R;have hAr:=a2L hg R hA;obtain ⟨b,of,hp⟩:=hAr.pointer;rw [hp] at hAr;exact ⟨.pointer (some ⟨b,of+0,none⟩),by simp [execOp,hop,hp],fun d=>hAr.up _ _⟩
 cases h
theorem b5r {t:TypeId} {x i:Operand} (hop:o.op = .index t x i) {an:Ann} (h:a2r Ar.std T an σ.n g H o=some (some (ss,h'))):a0f P σ o ss h':=by
 simp only [a2r,hop,zp3,a3r,a4b,a4x] at h;split at h
 ·rename_i sz m e zc cs kz z ht hx hi;split at h
  ·rename_i te hte;split at h
   ·rename_i hb;simp at hb;obtain ⟨⟨hz0,hz1⟩,hsz⟩:=hb;unfold b9x at h;split at h
    ·rename_i y hy;refine a0c hgd h (by simp [hop]) (AV.free_place rfl) ?_;intro G a w R;have h1:=a0z hg R hx;have h2:=a0z hg R hi;generalize hei:a.eval i=vi at h2;cases h2;generalize hex:a.eval x=vx at h1;cases h1 with | agg _ vs hs hh h1 =>
     obtain ⟨N,rfl⟩:=zp9 hz0;have key : ∃ v,(part e vs (N*te.size)).run P w = .ok v w/\RepD G.K y v:=by
      unfold a9m at hy;by_cases hagg:te.isAgg=true
      ·rw [if_pos hagg] at hy;exact a7i hT hg hgd hte (p:=N*te.size) (i:=(N:Int)*te.size) (j:=(N:Int)*te.size+te.size) (by simp) (by simp) (by unfold a9m;rw [if_pos hagg];exact hy) hs hh h1
      rw [if_neg hagg] at hy;have hs1:te.size=1:=by rcases hsz with h | h;exact absurd h hagg;exact h
      exact a7i hT hg hgd hte (p:=N*te.size) (i:=((N*te.size:Nat):Int)) (j:=((N*te.size:Nat):Int)+te.size) rfl rfl (by unfold a9m;rw [if_neg hagg,hs1,Nat.mul_one];simpa using hy) hs hh h1
     obtain ⟨v,hv,hr⟩:=key;refine ⟨v,?_,fun d => .d _ _ _ hr⟩;have hzm:(N:Int)<(m:Int):=hz1;simp [execOp,hop,hei,hex,Instr.index,asIntOf,Go.underlying,hT.array ht,hzm,hT.size hte,hv];omega
    cases h
   cases h
  cases h
 cases h
theorem b5s {t:TypeId} {x:Operand} {f:Nat} (hop:o.op = .field t x f) {an:Ann} (h:a2r Ar.std T an σ.n g H o=some (some (ss,h'))):a0f P σ o ss h':=by
 simp only [a2r,hop] at h;split at h
 ·rename_i d hd;split at h
  ·simp only [zp3] at h;split at h
   ·rename_i ft off sz cs hf hx;obtain ⟨s,fs,z,td,ht,hfs,hft,rfl⟩:=a2D hf;obtain ⟨fields,hu,hmap⟩:=hT.struct ht;have hfield : ∃ fld,fields[f]?=some fld/\fld.type=ft/\fld.offset=off:=by
     rw [<-hmap] at hfs;simp at hfs;obtain ⟨fld,h1,h2,h3⟩:=hfs;exact ⟨fld,h1,h2,h3⟩
    obtain ⟨fld,hfl,rfl,rfl⟩:=hfield;simp only [hft] at h;unfold b9x at h;split at h
    ·rename_i y hy;refine a0c hgd h (by simp [hop]) (AV.free_place rfl) ?_;intro G a w R;have h1:=a0z hg R hx;generalize hex:a.eval x=vx at h1;cases h1 with | agg _ vs hs hh h1 =>
     obtain ⟨v,hv,hr⟩:=a7i hT hg hgd hft (p:=fld.offset) rfl (by simp) hy hs hh h1 (w:=w);exact ⟨v,by simp [execOp,hop,hex,Instr.field,Go.underlying,hu,hfl,asAgg,hv],fun d => .d _ _ _ hr⟩
    cases h
   cases h
  cases h
 cases h
theorem b6S {d:Nat} (hd:o.dst=some d) (hlt:d<σ.n) (hun:σ.get d = .undef) (hnd : ∀ c,o.op ≠ .defer c) {ds:List D} (h1:(∃ G a w,Rel G σ a w) -> ∀ x∈ds,x.isOne=true)
  (hrun : ∀ G a w,Rel G σ a w -> ∃ (vs:Array Value) (e:TypeId),(execOp a.eval o).run P w = .ok (.value (.pointer (some ⟨w.heap.size,0,none⟩))) (w.alloc (.cells vs e))/\vs.size=ds.length /\
   ∀ (j:Nat) (hj:j<ds.length),RepD G.K ds[j] (vs.getD j Go.undef)/\(vs.getD j Go.undef).oneCell'=true):a0f P σ o [(d,.ptr σ.heap.length 0)] (some (σ.heap++[.arr 1 ds])):=by
 refine a3V hd hlt (by rw [hun];rfl) hnd rfl ?_;intro G a w R;obtain ⟨vs,e,hr,hs,hh⟩:=hrun G a w R;have h1:=h1 ⟨G,a,w,R⟩;have hfl:D.flat ds=ds:=a5k h1;refine ⟨.cells vs e,_,hr,fun _ _ _ e=>by cases e;rfl,fun G' hK hO hβ hnh=>⟨⟨vs,e,by rw [hβ];exact hO,by rw [hβ];exact heap_alloc_new,a5H h1,by rw [hfl];omega,fun j hj => ?_,fun j hj => ?_⟩,?_⟩⟩
 ·rw [hfl] at hj;exact (hh j hj).2
 ·have hj':j<ds.length:=by rw [hfl] at hj;exact hj
  have e1:(D.flat ds)[j]=ds[j]:=by simp only [hfl]
  rw [e1,hK];exact (hh j hj').1
 have:=RepV.ptr (G:=G') (w:=w.alloc (.cells vs e)) (.s d) σ.heap.length 0 (by omega)
 rwa [hβ] at this
theorem b5t {t:TypeId} (hop:o.op = .alloc t) {an:Ann} (hHe:a0P an g o=true->H=σ.heap) (h:a2r Ar.std T an σ.n g H o=some (some (ss,h'))):a0f P σ o ss h':=by
 simp only [a2r,hop] at h;split at h
 ·rename_i d hd;split at h
  ·rename_i harr;have hHσ:H=σ.heap:=hHe (by simp [a0P,hop,hd];right;simpa using harr);simp only [zp3] at h;split at h
   ·rename_i td ht;split at h
    ·rename_i hc;simp at hc;have hun:σ.get d = .undef:=by rw [<-hgd d hd];exact AV.undef_of hc.2
     rw [Option.map_eq_some_iff] at h;obtain ⟨ds,hds,h⟩:=h;simp at h;obtain ⟨rfl,rfl⟩:=h;rw [hHσ];obtain ⟨i,dd,hi,hdd,hsz,_,huok,z,hz,hzs,hzl,hzc⟩:=hT.info ht;have each:ds.length=td.zero.length /\ ∀ (j:Nat) (hj:j<ds.length),(∀ (G:Gh) (w:World),RepD G.K ds[j] (z.cells.getD j Go.undef))/\(z.cells.getD j Go.undef).oneCell'=true:=by
      unfold c4b at hds;split at hds
      ·rename_i q hq;have hr:=b7Y hq;cases hds;refine ⟨by simp [Ar.std,hzl],fun j hj => ?_⟩;have hj':j<td.zero.length:=by simpa [Ar.std,hzl] using hj
       have h1:=a1v (hzc j hj');refine ⟨fun G w => ?_,h1.2.2⟩;have h2:=h1.1 G w .no;have e1:td.zero[j] = .d q:=by
        have h3:td.zero[j]∈td.zero:=zp6 _;generalize td.zero[j]=c at h3;rw [hr] at h3;exact (List.mem_replicate.1 h3).2
       rw [e1] at h2;simp only [Ar.std,List.getElem_replicate];cases h2;assumption
      obtain ⟨q1,q2⟩:=a6B hds;refine ⟨q1,fun j hj => ?_⟩;have h1:=a1v (hzc j (by omega));exact ⟨fun G w=>q2 j hj (by omega) (h1.1 G w .no),h1.2.2⟩
     refine b6S hT hg hgd hd hc.1 hun (by simp [hop]) (fun ⟨G,_,w,_⟩ x hx => ?_) (fun G a w R=>⟨z.cells,t,by simp [execOp,hop,Instr.alloc,zeroValue,typeInfo,hi,hz,newVar,newRow],by omega,fun j hj=>⟨(each.2 j hj).1 G w,(each.2 j hj).2⟩⟩);obtain ⟨j,hj,rfl⟩:=List.mem_iff_getElem.1 hx;exact a2e ((each.2 j hj).1 G w) (each.2 j hj).2
    cases h
   cases h
  cases h
 cases h
theorem c0j {t:TypeId} {x:Operand} (hop:o.op = .box t x) {an:Ann} (hHe:a0P an g o=true->H=σ.heap) (h:a2r Ar.std T an σ.n g H o=some (some (ss,h'))):a0f P σ o ss h':=by
 simp only [a2r,hop] at h;split at h
 ·rename_i d hd;split at h
  ·rename_i harr;have hHσ:H=σ.heap:=hHe (by simp [a0P,hop,hd];right;simpa using harr);simp only [zp3] at h;split at h
   ·rename_i td cs ht hx;split at h
    ·rename_i hc;simp at hc;obtain ⟨⟨hlt,hu⟩,hlen⟩:=hc;have hun:σ.get d = .undef:=by rw [<-hgd d hd];exact AV.undef_of hu
     simp at h;obtain ⟨rfl,rfl⟩:=h;rw [hHσ];have each : ∀ G a w,Rel G σ a w -> ∃ vs:Array Value,a.eval x = .agg vs/\vs.size=cs.length /\ ∀ (j:Nat) (hj:j<cs.length),RepD G.K cs[j] (vs.getD j Go.undef)/\(vs.getD j Go.undef).oneCell'=true:=by
      intro G a w R;have h1:=a0z hg R hx;generalize hex:a.eval x=vx at h1;cases h1 with | agg _ vs hs hh h1 =>
      exact ⟨vs,rfl,hs,fun j hj=>⟨hh j hj,h1 _ (by simp [Array.getD,hs,hj])⟩⟩
     refine b6S hT hg hgd hd hlt hun (by simp [hop]) (fun ⟨G,a,w,R⟩ x hx => ?_) (fun G a w R => ?_)
     ·obtain ⟨vs,_,_,hh⟩:=each G a w R;obtain ⟨j,hj,rfl⟩:=List.mem_iff_getElem.1 hx;exact a2e (hh j hj).1 (hh j hj).2
     obtain ⟨vs,hv,hs,hh⟩:=each G a w R;exact ⟨vs,t,by simp [execOp,hop,Instr.box,newVar,newRow,hv,Value.cells],hs,hh⟩
    cases h
   cases h
  cases h
 cases h
end
theorem a6t {P:Program} {T:a0i} (hT:TOk P T) {σ:St} {g:Nat->AV} {o:Oper} (hg:Less g σ) (hgd : ∀ d,o.dst=some d->g d=σ.get d) {s d k1:Nat} {y:Operand} {t u:TypeId} {l ys:List D}
  (hop:o.op = .call { callee := .builtin .append,args := #[.tmp s,y],argTypes := #[t,u] }) (ht:a0h T t=some k1) (hu':a0h T u=some k1) (hy:a2B T g u y=some (k1,ys)) (hdst:o.dst=some d)
  (hs:σ.get s = .lim k1 l) (hne:ys≠[]) (_:0<k1) (hlt:d<σ.n) (hbx:(g d).isBox=false) (hfits:(l.length:Int)+ys.length<4294967296) :
  a0f P σ o [(d,.mref σ.heap.length k1 0 ((l.length:Int)+ys.length))] (some (σ.heap++[.arr k1 (l++ys)])):=by
 have hnd : ∀ c,o.op ≠ .defer c:=by simp [hop]
 obtain ⟨sz,e,zz,td,hTt,hTe,hks⟩:=a0l ht;obtain ⟨sz1,e1,zz1,td1,hTt1,hTe1,hks1⟩:=a0l hu';obtain ⟨ie,dd,hie,hdd,hsz,hbytes,huok,z0,hz,hzs,hzl,hzc⟩:=hT.info hTe;refine a4S hdst hlt (by rw [<-hgd d hdst];exact hbx) hnd rfl ?_;intro G a w R;have hys:=a2M hg hy R;have hrep:=R.slots s;have hev:a.eval (.tmp s)=a.tmps.getD s Go.undef:=rfl;generalize hsv:a.tmps.getD s Go.undef=sv at hrep;rw [hs] at hrep;cases hrep with | lim _ _ _ _ hr hlim =>
 have hyl : ∃ b cap,a.eval y = .slice b ys.length cap:=by
  rcases hys.slice with ⟨rfl,oa,hv⟩ | ⟨b,off,cap,hv⟩
  ·exact ⟨_,_,hv⟩
  exact ⟨_,_,hv⟩
 obtain ⟨by',cy,hyv⟩:=hyl;have hsl : ∃ b cap,sv = .slice b l.length cap:=by
  rcases hr.slice with ⟨rfl,oa,hv⟩ | ⟨b,off,cap,hv⟩
  ·exact ⟨_,_,hv⟩
  exact ⟨_,_,hv⟩
 obtain ⟨bs,cs,rfl⟩:=hsl;have hcs:l.length=cs:=hlim _ _ _ rfl;have hyp:0<ys.length:=List.length_pos_iff.2 hne;have hcap : ¬ l.length+ys.length<=cs:=by omega
 have hbig : ¬ Builtin.nextslicecap (l.length+ys.length) cs*ie.bytes>2 ^ 48:=by
  have h1:=a2u (need:=l.length+ys.length) (cap:=cs) (by omega);have h2:Builtin.nextslicecap (l.length+ys.length) cs*ie.bytes<=(2*(l.length+ys.length)+200)*4096:=Nat.mul_le_mul h1 hbytes;omega
 let qn:=Question.appendCap (l.length+ys.length) cs e;have hforced:qn.forced=false:=rfl;let nc:=qn.cut (w.tape w.drawn qn);let wd:=w.drew;have hwd:wd.heap=w.heap:=rfl;have hnc:l.length+ys.length<=nc:=by simp [nc,qn,Question.cut]
 let rest:=Builtin.zeroCells z0.cells (nc-(l.length+ys.length));have hkd : ∀ x v,G.K x=some v->wd.cell? x=some v:=by
  intro x v hx;have:=R.h.kept x v hx;unfold World.cell? at *
  rwa [hwd]
 obtain ⟨arrY,f1,f2,f3,f4⟩:=a1c (P:=P) hkd hys;obtain ⟨arrS,s1,s2,s3,s4⟩:=a1c (P:=P) hkd hr;rw [hyv] at f1;have hrun:(execOp a.eval o).run P w = .ok (.value (.slice (some ⟨w.heap.size,0,none⟩) (l.length+ys.length) nc)) (wd.alloc (.cells (arrS++arrY++rest) e)):=by
  have key:(Builtin.append_ #[t,u] o.type #[.slice bs l.length cs,a.eval y]).run P w = .ok (.slice (some ⟨w.heap.size,0,none⟩) (l.length+ys.length) nc) (wd.alloc (.cells (arrS++arrY++rest) e)):=by
   unfold Builtin.append_;simp [Go.underlying,hT.slice hTt,hT.slice hTt1,hT.size hTe,Builtin.lenOf,hyv,hcap,hks,typeInfo,hie,hbig];have hmax' : ¬ ((9223372036854775807:Int)<(l.length:Int)+(ys.length:Int)/\ie.bytes=0):=by
    intro hh;omega
   rw [if_neg hmax'];have hforced':(Question.appendCap (l.length+ys.length) cs e).forced=false:=rfl;simp only [hforced',Bool.false_eq_true,if_false];rw [show (Builtin.firstCells k1 l.length (Value.slice bs l.length cs)).run P w.drew=_ from s1];simp only [Result.andThen_ok];rw [show (Builtin.firstCells k1 ys.length (Value.slice by' ys.length cy)).run P w.drew=_ from f1];simp only [Result.andThen_ok,zeroValue,typeInfo,Sem.run_bind,run_program,hie,hz,Sem.run_pure,newRow,run_newObj];simp [rest,nc,qn,wd]
   rfl
  simp only [execOp,hop,resolve,invoke,Go.builtin,Sem.run_bind,Sem.run_pure,Result.andThen_ok];simp [hev,hsv,key]
 have hfl:=a0b s3;have hfy:=a0b f3;have huni:a0k k1 (l++ys):=fun x hx=>by rcases List.mem_append.1 hx with hx | hx;exact s3 x hx;exact f3 x hx
 have each : ∀ (q:Nat) (hq:q<(D.flat (l++ys)).length),RepD G.K (D.flat (l++ys))[q] ((arrS++arrY++rest).getD q Go.undef)/\((arrS++arrY++rest).getD q Go.undef).oneCell'=true:=by
  intro q hq;simp only [a0C] at hq ⊢;have e0:(arrS++arrY++rest).getD q Go.undef=if q<arrS.size then arrS.getD q Go.undef else arrY.getD (q-arrS.size) Go.undef:=by
   simp only [List.length_append] at hq;simp only [zp5];split
   ·rename_i hq1;rw [Array.getElem?_append_left (by simp;omega),Array.getElem?_append_left hq1]
   rename_i hq1;rw [Array.getElem?_append_left (by simp;omega),Array.getElem?_append_right (by omega)]
  rw [e0];by_cases hq1:q<arrS.size
  ·rw [if_pos hq1,List.getElem_append_left (by omega)];exact s4 q (by omega)
  rw [if_neg hq1,List.getElem_append_right (by omega)];have:=f4 (q-arrS.size) (by simp at hq;omega);simpa [s2] using this
 refine ⟨wd,.cells (arrS++arrY++rest) e (0,0),.slice (some ⟨w.heap.size,0,none⟩) (l.length+ys.length) nc,⟨hwd,rfl,rfl,rfl,Nat.le_succ _⟩,hrun,fun _ _ _ e=>by cases e;rfl,fun G' hK hO hβ hnh=>⟨?_,?_⟩⟩
 ·refine ⟨_,e,by rw [hβ];exact hO,by rw [hβ];exact heap_alloc_new (w:=wd),huni,?_,fun q hq=>(each q hq).2,fun q hq=>by rw [hK];exact (each q hq).1⟩;simp only [a0C,List.length_append,Array.size_append,s2,f2];omega
 have:=RepV.mref (G:=G') (w:=wd.alloc (.cells (arrS++arrY++rest) e)) (.s d) σ.heap.length k1 0 ((l.length:Int)+ys.length) w.heap.size 0 nc (by omega) (Int.le_refl _) (by omega) (by simp;omega) (fun _=>⟨hβ.symm,by simp⟩);rw [show ((l.length:Int)+ys.length).toNat=l.length+ys.length from by omega] at this;simpa using this
theorem b3c {P:Program} {T:a0i} (hT:TOk P T) {σ:St} {g:Nat->AV} {o:Oper} {ss:a1C} {h':Option (List Obj)} {H:List Obj} {an:Ann} (hg:Less g σ) (hgd : ∀ d,o.dst=some d->g d=σ.get d)
  {args:Array Operand} {ts:Array TypeId} (hop:o.op = .call { callee := .builtin .append,args:=args,argTypes:=ts }) (hHe:a0P an g o=true->H=σ.heap) (h:a2r Ar.std T an σ.n g H o=some (some (ss,h'))):a0f P σ o ss h':=by
 simp only [a2r,hop] at h;split at h
 ·rename_i d hdst;split at h
  ·rename_i hth;have hHσ:H=σ.heap:=hHe (by simp [a0P,hop,hdst];right;simpa using hth);simp only [zp3] at h;split at h
   ·rename_i s y t u hargs hts;obtain rfl:args = #[.tmp s,y]:=by cases args;simp_all
    obtain rfl:ts = #[t,u]:=by cases ts;simp_all
    split at h
    ·rename_i k' l k k1 k2 ys hgs ht hu hy;split at h
     ·rename_i hc;simp [Ar.std] at hc h;obtain ⟨⟨⟨⟨⟨⟨⟨⟨hlen,rfl⟩,rfl⟩,rfl⟩,hpos⟩,hlt⟩,hbx⟩,hsd⟩,hfits⟩:=hc;obtain ⟨rfl,rfl⟩:=h;rw [hHσ];exact a6t hT hg hgd hop ht hu hy hdst (hg.eq hgs (by simp)) (by rintro rfl;simp at hlen) hpos hlt hbx hfits
     cases h
    cases h
   cases h
  cases h
 cases h
theorem b5u {P:Program} {T:a0i} (hT:TOk P T) {σ:St} {g:Nat->AV} {o:Oper} {ss:a1C} {h':Option (List Obj)} {H:List Obj} {an:Ann}
  (hg:Less g σ) (hgd : ∀ d,o.dst=some d->g d=σ.get d) (hH : ∀ (i:Nat) (ob:Obj),H[i]?=some ob->σ.heap[i]?=some ob) (hHe:a0P an g o=true->H=σ.heap)
  (h:a2r Ar.std T an σ.n g H o=some (some (ss,h'))):a0f P σ o ss h':=by
 cases hop:o.op with
 | nilCheck x=>exact a9r hT hg hgd hop h
 | index t x i=>exact b5r hT hg hgd hop h
 | field t x f=>exact b5s hT hg hgd hop h
 | alloc t=>exact b5t hT hg hgd hop hHe h
 | box t x=>exact c0j hT hg hgd hop hHe h
 | call c =>
   obtain ⟨callee,args,ts⟩:=c;cases callee with
   | builtin b =>
     cases b with
     | append=>exact b3c hT hg hgd hop hHe h
     | _=>simp [a2r,hop] at h
   | _=>simp [a2r,hop] at h
 | _=>simp [a2r,hop] at h
theorem a9s {v:AV} {k:Nat} {l:List D} (h:v.tailOf=some (k,l)) : ∃ z,v = .ownZ z k l:=by
 cases v <;> simp [AV.tailOf] at h
 ·obtain ⟨rfl,rfl⟩:=h;exact ⟨true,rfl⟩
 obtain ⟨rfl,rfl⟩:=h;exact ⟨false,rfl⟩
theorem a3b {v:AV} {k:Nat} {l:List D} (h:v.tailOnly=some (k,l)):v = .ownZ false k l:=by
 cases v <;> simp [AV.tailOnly] at h;obtain ⟨rfl,rfl⟩:=h;rfl
theorem a3s.move {z:Bool} {G:Gh} {w:World} {ℓ ℓ':Loc} {k:Nat} {v:Value} (h:a3s z G w ℓ k v):a3s z (G.move ℓ ℓ') w ℓ' k v:=by
 intro a n cap hv hn;obtain ⟨f,c,e,h1,h2⟩:=h a n cap hv hn;exact ⟨f,c,e,by simp [Gh.move,h1],h2⟩
theorem a8o {P:Program} {σ:St} {g:Nat->AV} {o:Oper} (hgd : ∀ d,o.dst=some d->g d=σ.get d) {s d k:Nat} {l l':List D} {z:Bool}
  (hs:σ.get s = .ownZ z k l) (hd:o.dst=some d) (hlt:d<σ.n) (hbx:(g d).isBox=false) (hsd:s≠d) (hnd : ∀ c,o.op ≠ .defer c)
  (hrun : ∀ G a w,Rel G σ a w -> ∃ v,(execOp a.eval o).run P w = .ok (.value v) w/\RepD G.K (.list k l') v/\(a3s z G w (.s s) k (a.tmps.getD s Go.undef)->a3s false G w (.s s) k v)) :
  a0f P σ o [(s,.d (.list k l)),(d,.tail k l')] none:=by
 intro r n m G a w Q next hm R hn
 obtain ⟨v,hr,hrep',ht'⟩:=hrun G a w R;have hrep:=R.slots s;rw [hs,a1O] at hrep;obtain ⟨hrl,ht⟩:=hrep;have htv:=ht' ht;refine a0y hnd hr (hn (G.move (.s s) (.s d)) _ _ ?_ (Ext.move m G w _ _));rw [hd];have hd':d<a.tmps.size:=by rw [R.size];exact hlt
 have hdb:(σ.get d).isBox=false:=by rw [<-hgd d hd];exact hbx
 have hpr:=G.move_pres w (.s s) (.s d);refine ⟨R.h.move _ _ (by simp [Loc.root]) ?_,by simpa [Act.put,St.upd] using R.size,?_,?_,R.df.move (by simp)⟩
 ·intro i ob hob;exact (R.h.objs i ob hob).pres R.h.sane (by rw [<-R.h.nh];exact (zp2.1 hob).1) hpr (by simp) (by simp)
 ·intro t;simp only [Act.put,a1q _ _ _ _ hd',St.upd,St.get,a0r,List.foldl_cons,List.foldl_nil,a0d];split
  ·rename_i e;subst e;exact .tail _ _ _ _ hrep' htv.move
  split
  ·rename_i e;subst e;exact .d _ _ _ hrl
  rename_i e1 e2;exact (R.slots t).pres R.h.sane hpr (by simp;exact fun e=>e2 e.symm) (fun _ _ _=>rfl) (fun _ _ _=>⟨rfl,by simp⟩)
 intro t r' off ht;simp only [St.upd,St.get,a0r,List.foldl_cons,List.foldl_nil,a0d] at ht ⊢;split at ht
 ·cases ht
 split at ht
 ·cases ht
 obtain ⟨cs,hcs⟩:=R.places t r' off ht;refine ⟨cs,?_⟩;split
 ·rename_i e;subst e;rw [show σ.get d=_ from hcs] at hdb;simp [AV.isBox] at hdb
 split
 ·rename_i e;subst e;rw [hcs] at hs;exact absurd hs (by cases z <;> simp [AV.ownZ])
 exact hcs
theorem b3d {P:Program} {T:a0i} (hT:TOk P T) {σ:St} {g:Nat->AV} {o:Oper} {ss:a1C} {h':Option (List Obj)} {an:Ann}
  (hg:Less g σ) (hgd : ∀ d,o.dst=some d->g d=σ.get d)
  (h:a4c Ar.std T an σ.n g o=some (some (ss,h'))):a0f P σ o ss h':=by
 unfold a4c at h;split at h
 case h_2=>cases h
 rename_i d hd;split at h
 case isFalse=>cases h
 have mv : ∀ s,(o.op = .move (.tmp s)\/o.op = .assign (.tmp s))->(match (g s).tailOnly with
    | some (k,l)=>some <| if decide (d<σ.n) && !(g d).isBox&&decide (s≠d) then some ([(s,AV.d (.list k l)),(d,AV.tail k l)],none) else none
    | none=>none)=some (some (ss,h'))->a0f P σ o ss h':=by
  intro s hop h;split at h
  ·rename_i k l hgs;simp only [zp3] at h;split at h
   ·rename_i hc;simp at hc;simp at h;obtain ⟨rfl,rfl⟩:=h;have hs:σ.get s = .ownZ false k l:=by
     rw [<-a3b hgs];exact hg.eq rfl (by rw [a3b hgs];simp [AV.ownZ])
    refine a8o (z:=false) hgd hs hd hc.1.1 hc.1.2 hc.2 (by rcases hop with hop | hop <;> simp [hop]) ?_
    intro G a w R;have hrep:=R.slots s;rw [hs,a1O] at hrep;exact ⟨a.eval (.tmp s),by rcases hop with hop | hop <;> simp [execOp,hop],hrep.1,fun h=>h⟩
   cases h
  cases h
 split at h
 ·rename_i s hop;exact mv s (.inl hop) h
 ·rename_i s hop;exact mv s (.inr hop) h
 ·rename_i t s lo hop;split at h
  ·rename_i k l es lw hgs hes hlo;simp only [zp3] at h;split at h
   ·rename_i hc;simp [Ar.std] at hc;simp at h;obtain ⟨rfl,rfl⟩:=h;obtain ⟨⟨⟨⟨⟨rfl,h0⟩,h1⟩,hlt⟩,hbx⟩,hsd⟩:=hc;obtain ⟨z,hz⟩:=a9s hgs;have hs:σ.get s = .ownZ z k l:=by
     rw [<-hz];exact hg.eq rfl (by rw [hz];cases z <;> simp [AV.ownZ])
    refine a8o (z:=z) hgd hs hd hlt hbx hsd (by simp [hop]) ?_;intro G a w R;have hrep:=R.slots s;rw [hs,a1O] at hrep;have hr:=hrep.1;obtain ⟨sz,e,zz,td,ht,hte,rfl⟩:=a0l hes;obtain ⟨nl,rfl⟩:=zp9 h0;have hnl:nl<=l.length:=by omega
    obtain ⟨kk,hev⟩:=a0D hg hlo R;have key : ∀ (b:Option Addr) (cap:Nat),a.eval (.tmp s) = .slice b l.length cap->l.length<=cap ->
      (execOp a.eval o).run P w = .ok (.value (.slice (if cap=nl then b else b.map (·.add (nl*td.size))) (l.length-nl) (cap-nl))) w:=by
     intro b cap hx h1;have hrun:=a0J (P:=P) (w:=w) (len:=l.length) (cap:=cap) (nl:=nl) (nh:=l.length) (m:=cap) (low:=(some lo).map a.eval) (high:=none) (max:=none)
      (.inr ⟨kk,by simp [hev]⟩) (.inl ⟨rfl,rfl⟩) (.inl ⟨rfl,rfl⟩) hnl h1 (Nat.le_refl _)
     simp at hrun;simp [execOp,hop,Instr.sliceAt,Instr.slice,Go.underlying,hT.slice ht,hx,hrun,hT.size hte]
    have hsub:Ar.std.sub l (nl:Int) (l.length:Int)=(l.drop nl).take (l.length-nl):=by
     show (l.drop (nl:Int).toNat).take ((l.length:Int).toNat-(nl:Int).toNat)=_;simp
    show ∃ v,(execOp a.eval o).run P w = .ok (.value v) w/\RepD G.K (.list td.size (Ar.std.sub l (nl:Int) (l.length:Int))) v/\_;rw [hsub];have hev':a.eval (.tmp s)=a.tmps.getD s Go.undef:=rfl;rcases hr.slice with ⟨rfl,oa,hv⟩ | ⟨b,off,cap,hv⟩
    ·have e1:nl=0:=by simpa using hnl
     subst e1;refine ⟨_,key oa 0 (by rw [hev',hv];rfl) (Nat.le_refl _),by simpa using RepD.zero _ td.size oa,fun _ a n cap e hc => ?_⟩;simp at e;omega
    rw [hv] at hr;have hcap:l.length<=cap:=by
     generalize hv':Value.slice (some ⟨b,off,none⟩) l.length cap=v at hr;cases hr with
     | nil=>simp at hv'
     | none0=>simp
     | list k l b' off' cap' vs hu hc=>simp at hv';omega
    refine ⟨_,key _ cap (by rw [hev',hv]) hcap,?_,fun hT1 => ?_⟩
    ·by_cases hm:cap=nl
     ·have e1:l.length-nl=0:=by omega
      rw [if_pos hm,e1,show cap-nl=0 by omega];simpa using RepD.empty G.K td.size b off 0
     simp only [if_neg hm,Option.map_some,Addr.add_none];exact hr.sub hnl (Nat.le_refl _) (by omega)
    intro a' n' cap' e' hc';simp only [Value.slice.injEq] at e';obtain ⟨e1,rfl,rfl⟩:=e';rw [if_neg (by omega)] at e1;simp only [Option.map_some,Addr.add_none,zp3] at e1;subst e1;obtain ⟨f,c,e3,q1,q2,q3,q4,_⟩:=hT1 _ _ _ hv (by omega);dsimp only at q1 q2 q3 q4 ⊢;have m1:nl*td.size+(l.length-nl)*td.size=l.length*td.size:=by rw [<-Nat.add_mul];congr 1;omega
    have m2:nl*td.size+(cap-nl)*td.size=cap*td.size:=by rw [<-Nat.add_mul];congr 1;omega
    exact ⟨f,c,e3,q1,by omega,q3,by omega,fun h=>by cases h⟩
   cases h
  cases h
 ·rename_i args ts hop;split at h
  ·rename_i s y t u hargs hts;obtain rfl:args = #[.tmp s,y]:=by cases args;simp_all
   obtain rfl:ts = #[t,u]:=by cases ts;simp_all
   split at h
   ·rename_i k' l k k1 k2 ys hgs ht hu hy;simp only [zp3] at h;split at h
    ·rename_i hc;simp [Ar.std] at hc;simp [Ar.std] at h;obtain ⟨rfl,rfl⟩:=h;obtain ⟨⟨⟨⟨⟨⟨⟨⟨hcons,rfl⟩,rfl⟩,rfl⟩,hpos⟩,hlt⟩,hbx⟩,hsd⟩,hfits⟩:=hc;have hs:=hg.eq (a3b hgs) (by simp [AV.ownZ]);exact a3a (z:=false) hT hg hgd hop ht hu (fun R=>a3D hg hy R) hd (.inl hs) (fun _=>by rintro rfl;cases hcons) hpos hlt hbx hsd hfits
    cases h
   cases h
  cases h
 cases h
theorem a9t {A:Ar} {T:a0i} {an:Ann} {n:Nat} {g:Nat->AV} {H':List Obj} {o:Oper} {ss:a1C} (h:a4c A T an n g o=some (some (ss,some H'))):False:=by
 unfold a4c at h
 repeat' split at h
 all_goals first
  | (cases h;done)
  | (simp at h;done)
theorem b3e {A:Ar} {T:a0i} {an:Ann} {n:Nat} {g:Nat->AV} {H H':List Obj} {o:Oper} {ss:a1C} (h:a2r A T an n g H o=some (some (ss,some H'))):H.length<=H'.length:=by
 have hput0 : ∀ {dst:Option Tmp} {v:AV},put n g dst v≠some (ss,some H'):=by
  intro dst v e;have:=(a0G e).1;cases this
 have hput : ∀ {dst:Option Tmp} {v:Option D},b9x n g dst v≠some (ss,some H'):=by
  intro dst v e;unfold b9x at e;split at e
  ·have:=(a0G e).1;cases this
  cases e
 cases hop:o.op <;> simp only [a2r,hop] at h
 all_goals (repeat' split at h)
 all_goals first
  | (cases h;done)
  | (simp only [zp3] at h;exact absurd h hput)
  | (simp only [zp3] at h;exact absurd h hput0)
  | (simp at h;done)
  | (simp at h;rw [<-h.2];simp;done)
  | (simp at h;obtain ⟨_,_,_,rfl⟩:=h;simp;done)
end Go.Am
