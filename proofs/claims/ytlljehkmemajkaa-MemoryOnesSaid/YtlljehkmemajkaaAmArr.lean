/- Own text: AmArr. -/
import Derived.Test.YtlljehkmemajkaaAmEq
import Derived.Laws.MakeOwn
import Derived.Laws.Cover3
set_option linter.unusedSimpArgs false
set_option linter.unusedSectionVars false
set_option linter.unusedVariables false
namespace Go.Am
open Go
theorem slotAV_some {g:Nat->AV} {x:Operand} {c:AV} (h:slotAV g x=c) (hc:c ≠ .undef) : ∃ s,x = .tmp s/\g s=c:=by
 cases x with
 | tmp s=>exact ⟨s,rfl,h⟩
 | _=>exact absurd h.symm hc
theorem opD_some {T:Types} {g:Nat->AV} {σ:St} {G:Gh} {a:Act} {w:World} (hg:Less g σ) (R:Rel G σ a w) {t:TypeId} {x:Operand} {y:D} (h:opD T g t x=some y):RepD G.K y (a.eval x):=by
 unfold opD at h
 split at h
 ·rename_i y' hy
  cases h
  have:=(opv_ok hg R hy .no).1
  cases this with | d _ _ _ h=>exact h
 ·cases h
theorem zeroD_ok {P:Program} {T:Types} (hT:TOk P T) {t:TypeId} {td:TD} (ht:T t=some td) {y:D} (hy:zeroD td=some y) {i:TypeInfo} (hi:P.info? t=some i) :
  ∃ z,i.zero=some z/\z.cells.size=td.size/\y.cells.length=td.size/\(∀ (j:Nat) (hj:j<y.cells.length) (K:Addr->Option Value),RepD K y.cells[j] (z.cells.getD j Go.undef)/\(z.cells.getD j Go.undef).oneCell'=true):=by
 obtain ⟨i',d,hi',hd,hsz,hb,hu,z,hz,h1,h2,h3⟩:=hT.info ht
 rw [hi] at hi';cases hi'
 refine ⟨z,hz,h1,?_⟩
 have key : ∀ (ds:List D),dataOf td.zero=some ds->ds.length=td.size /\ ∀ (j:Nat) (hj:j<ds.length) (K:Addr->Option Value),RepD K ds[j] (z.cells.getD j Go.undef)/\(z.cells.getD j Go.undef).oneCell'=true:=by
  intro ds hds
  obtain ⟨k1,k2⟩:=dataOf_some hds
  refine ⟨by omega,fun j hj K => ?_⟩
  obtain ⟨z1,z2,z3⟩:=zeroCell_ok (h3 j (by omega))
  let G:Gh:={ K:=K,O:=fun _=>none,β:=fun _=>0,nh:=0 }
  exact ⟨k2 j (by omega) hj G default .no _ (z1 G default .no),z3⟩
 unfold zeroD at hy
 split at hy
 ·rename_i ha
  cases hd':dataOf td.zero with
  | none=>rw [hd'] at hy;cases hy
  | some ds =>
    rw [hd'] at hy
    cases hy
    obtain ⟨k1,k2⟩:=key ds hd'
    exact ⟨k1,k2⟩
 ·split at hy
  ·rename_i x hd'
   cases hy
   obtain ⟨k1,k2⟩:=key _ hd'
   have hcells:y.cells=[y]:=by
    have hone:=(k2 0 (by simp) (fun _=>none)).2
    have hrep:=(k2 0 (by simp) (fun _=>none)).1
    simp only [List.getElem_cons_zero] at hrep
    generalize z.cells.getD 0 Go.undef=zz at hone hrep
    cases y <;> first | rfl | skip
    cases hrep
    simp [Value.oneCell'] at hone
   refine ⟨by rw [hcells];simpa using k1,fun j hj K => ?_⟩
   have hj0:j=0:=by rw [hcells] at hj;simpa using hj
   subst hj0
   have:=k2 0 (by simp) K
   simpa [hcells] using this
  ·cases hy
theorem zeroD_rep {P:Program} {T:Types} (hT:TOk P T) {t:TypeId} {td:TD} (ht:T t=some td) {y:D} (hy:zeroD td=some y) {i:TypeInfo} (hi:P.info? t=some i) {z:Value} (hz:i.zero=some z) (K:Addr->Option Value):RepD K y z:=by
 obtain ⟨z',hz',hzs,hyl,hr⟩:=zeroD_ok hT ht hy hi
 rw [hz] at hz';cases hz'
 have hk:=hT.zeroKind ht hi hz
 unfold zeroD at hy
 cases ha:td.isAgg with
 | true =>
   rw [ha] at hy hk
   cases hd:dataOf td.zero with
   | none=>rw [hd] at hy;cases hy
   | some ds =>
     rw [hd] at hy
     cases hy
     cases z <;> simp [zKind] at hk
     rename_i vs
     refine .agg ds vs (by simp [Value.cells,D.cells] at hzs hyl;omega) (fun j hj=>(hr j hj K).1) (fun v hv => ?_)
     obtain ⟨j,hj,rfl⟩:=Array.mem_iff_getElem.1 hv
     have hj':j<ds.length:=by simp [Value.cells,D.cells] at hzs hyl;omega
     have:=(hr j hj' K).2
     simpa [Value.cells,Array.getD,hj] using this
 | false =>
   rw [ha] at hy hk
   simp only [Bool.false_eq_true,if_false] at hy
   split at hy
   ·rename_i x0 hd
    cases hy
    have hzc:z.cells = #[z]:=by cases z <;> first | rfl | (simp [zKind] at hk)
    obtain ⟨k1,k2⟩:=dataOf_some hd
    obtain ⟨i',d',hi',hd',hsz,hb,hu,zz,hzz,g1,g2,g3⟩:=hT.info ht
    rw [hi] at hi';cases hi'
    rw [hz] at hzz;cases hzz
    have h1:0<td.zero.length:=by rw [<-k1];simp
    obtain ⟨z1,z2,z3⟩:=zeroCell_ok (g3 0 h1)
    have:=k2 0 h1 (by simp) ({ K:=K,O:=fun _=>none,β:=fun _=>0,nh:=0 }:Gh) default .no _ (z1 _ _ _)
    simpa [hzc] using this
   ·cases hy
theorem storeArr_core {G:Gh} {σ:St} {a:Act} {w:World} (R:Rel G σ a w) {i k:Nat} {l l':List D} {cur row:Array Value} {e:TypeId} (hi:σ.heap[i]?=some (.arr k l))
  (hw:w.heap[G.β (.o i)]?=some (.cells cur e (0,0))) (hu:uniform k l') (hsz:(D.flat l').length<=row.size)
  (h1 : ∀ j,j<(D.flat l').length->(row.getD j Go.undef).oneCell'=true) (hh : ∀ (j:Nat) (hj:j<(D.flat l').length),RepD G.K (D.flat l')[j] (row.getD j Go.undef)) :
  Rel G (σ.upd [] (some (σ.heap.set i (.arr k l')))) a (w.setRow (G.β (.o i)) row) /\ ∀ m,Ext m G w G (w.setRow (G.β (.o i)) row):=by
 obtain ⟨vs0,e0,hO,hw0,_,_,_,_⟩:=R.h.objs i _ hi
 have hpr:=setRow_pres (w:=w) hO row
 have hil:i<σ.heap.length:=(zp2.1 hi).1
 refine ⟨⟨⟨R.h.sane,by simpa [St.upd] using R.h.nh,fun i' ob hob => ?_,kept_setRow R.h.kept (fun j=>(R.h.disj _ _ _ hO).2 j (Nat.zero_le _)) hO _,fun b ℓ f h => ?_⟩,by simpa [St.upd] using R.size,?_,?_,?_⟩,fun m=>Ext.setRow hO _⟩
 ·simp only [St.upd,Option.getD_some] at hob
  by_cases hii:i=i'
  ·subst hii
   rw [List.getElem?_set_self hil] at hob
   injection hob with hob;subst hob
   exact ⟨row,e,hO,setRow_heap _ _ _ _ _ _ hw,hu,hsz,h1,hh⟩
  ·rw [List.getElem?_set_ne hii] at hob
   exact (R.h.objs i' ob hob).pres R.h.sane (by rw [<-R.h.nh];exact (zp2.1 hob).1) hpr (by simp;exact fun e=>hii e.symm) (by simp)
 ·have:=R.h.disj b ℓ f h;exact ⟨by simpa using this.1,this.2⟩
 ·intro t
  exact (R.slots t).pres R.h.sane hpr (by simp) (fun _ _ _=>rfl) (fun t' e' _=>⟨rfl,fun j=>by simp⟩)
 ·intro t r'' off' ht
  exact R.places t r'' off' ht
 ·refine ⟨R.df.1,fun x hx => ?_⟩
  obtain ⟨r0,h1,h2,h3⟩:=R.df.2 x hx
  exact ⟨r0,h1,h2,by rw [setRow_other _ _ _ _ (by rintro rfl;rw [hO] at h2;cases h2)];exact h3⟩
theorem flat_set {k:Nat} (hk:0<k) {l:List D} (hu:uniform k l) {i:Nat} {y v:D} (hy:l[i]?=some y) (hv:v.cells.length=k) :
  uniform k (l.set i v)/\(D.flat (l.set i v)).length=(D.flat l).length /\ ∀ j,(D.flat (l.set i v))[j]?=if i*k<=j/\j<i*k+k then v.cells[j-i*k]? else (D.flat l)[j]?:=by
 have hlt:i<l.length:=(zp2.1 hy).1
 have hu':uniform k (l.set i v):=by
  intro x hx
  rcases List.mem_or_eq_of_mem_set hx with hx | rfl
  ·exact hu x hx
  ·exact hv
 have e:(D.flat (l.set i v)).length=(D.flat l).length:=by rw [flat_length hu',flat_length hu];simp
 refine ⟨hu',e,fun j => ?_⟩
 by_cases hj:j<(D.flat l).length
 ·have hfl:=flat_length hu
  have hq:j%k<k:=Nat.mod_lt _ hk
  have hd:j / k<l.length:=by rw [Nat.div_lt_iff_lt_mul hk];omega
  have hjj:j / k*k+j%k=j:=by rw [Nat.mul_comm];exact Nat.div_add_mod _ _
  by_cases hid:i=j / k
  ·subst hid
   have h1:=flat_get hu' (i:=j / k) (y:=v) (by rw [List.getElem?_set_self hlt]) (j%k) hq
   rw [hjj] at h1
   rw [h1,if_pos (by constructor <;> omega)]
   congr 1;omega
  ·have h1:=flat_get hu' (i:=j / k) (y:=l[j / k]) (by rw [List.getElem?_set_ne hid,zp1 hd]) (j%k) hq
   have h2:=flat_get hu (i:=j / k) (y:=l[j / k]) (zp1 hd) (j%k) hq
   rw [hjj] at h1 h2
   rw [h1,<-h2,if_neg]
   rintro ⟨c1,c2⟩
   have:i=j / k:=by
    apply Nat.le_antisymm
    ·rw [Nat.le_div_iff_mul_le hk];exact c1
    ·have:j<(i+1)*k:=by rw [Nat.succ_mul];exact c2
     have:=(Nat.div_lt_iff_lt_mul hk).2 this
     omega
   exact hid this
 ·have hfl:=flat_length hu
  have:(i+1)*k<=l.length*k:=Nat.mul_le_mul_right k (by omega)
  rw [Nat.succ_mul] at this
  rw [if_neg (by omega),List.getElem?_eq_none (by omega:(D.flat (l.set i v)).length<=j),List.getElem?_eq_none (by omega:(D.flat l).length<=j)]
theorem eIJ (k:Nat) {i:Int} (j:Nat) (hi:0<=i):i.toNat*k+j=(eI Ar.std k i j).toNat*k+eJ k j/\0<=eI Ar.std k i j:=by
 unfold eI eJ
 by_cases hk:k=1
 ·subst hk
  by_cases hj:j=0
  ·subst hj;simp [hi]
  ·simp [hj,Ar.std];omega
 ·simp [hk,hi]
theorem flat_one : ∀ {l:List D},(∀ x∈l,x.isOne=true)->D.flat l=l
 | [],_=>rfl
 | x::r,h=>by
   have h1:=h x (by simp)
   have:x.cells=[x]:=by cases x <;> first | rfl | (simp [D.isOne] at h1)
   have ih:=flat_one (l:=r) (fun y hy=>h y (by simp [hy]))
   simp only [D.flat,List.flatMap_cons,this] at ih ⊢
   rw [ih];rfl
theorem isOne_of_rep {K:Addr->Option Value} {d:D} {v:Value} (h:RepD K d v) (h1:v.oneCell'=true):d.isOne=true:=by
 cases h <;> first | rfl | (simp [Value.oneCell'] at h1)
theorem isOne_cells {x:D} (h:x.isOne=true):x.cells=[x]:=by cases x <;> first | rfl | (simp [D.isOne] at h)
section
variable {P:Program} {T:Types} (hT:TOk P T) {σ:St} {g:Nat->AV} {o:Oper} {ss:Sets} {h':Option (List Obj)} {H:List Obj}
 (hg:Less g σ) (hgd : ∀ d,o.dst=some d->g d=σ.get d) (hH : ∀ (i:Nat) (ob:Obj),H[i]?=some ob->σ.heap[i]?=some ob)
theorem mref_val {G:Gh} {a:Act} {w:World} (hg:Less g σ) (R:Rel G σ a w) {x:Operand} {i k:Nat} {lo n:Int} (h:slotAV g x = .mref i k lo n) :
  ∃ b off cap,a.eval x = .slice (some ⟨b,off,none⟩) n.toNat cap/\i<G.nh/\0<=lo/\0<=n/\n.toNat<=cap/\(0<n->b=G.β (.o i)/\off=lo.toNat*k):=by
 obtain ⟨s,rfl,hs⟩:=slotAV_some h (by simp)
 have:=hg.rep R s
 rw [hs] at this
 generalize hv:a.tmps.getD s Go.undef=v at this
 cases this with | mref _ _ _ _ _ b off cap h1 h2 h3 h4 h5=>exact ⟨b,off,cap,hv,h1,h2,h3,h4,h5⟩
theorem eptr_val {G:Gh} {a:Act} {w:World} (hg:Less g σ) (R:Rel G σ a w) {x:Operand} {i k j:Nat} {z:Int} (h:slotAV g x = .eptr i k z j) :
  a.eval x = .pointer (some ⟨G.β (.o i),z.toNat*k+j,none⟩)/\i<G.nh/\0<=z:=by
 obtain ⟨s,rfl,hs⟩:=slotAV_some h (by simp)
 have:=hg.rep R s
 rw [hs] at this
 generalize hv:a.tmps.getD s Go.undef=v at this
 cases this with | eptr _ _ _ _ _ h1 h2=>exact ⟨hv,h1,h2⟩
theorem slotE_mref {g:Nat->AV} {H:List Obj} {x:Operand} {i k:Nat} {lo n:Int} (h:slotE g H x = .mref i k lo n):slotAV g x = .mref i k lo n:=by
 unfold slotE at h
 split at h
 ·split at h <;> cases h
 ·exact h
theorem eptr_valE {G:Gh} {a:Act} {w:World} (hg:Less g σ) (R:Rel G σ a w) {x:Operand} {i k j:Nat} {z:Int} (h:slotE g H x = .eptr i k z j) :
  a.eval x = .pointer (some ⟨G.β (.o i),z.toNat*k+j,none⟩)/\i<G.nh/\0<=z:=by
 unfold slotE at h
 split at h
 ·rename_i b off hb
  split at h
  ·cases h
   obtain ⟨s,rfl,hs⟩:=slotAV_some hb (by simp)
   have:=hg.rep R s
   rw [hs] at this
   generalize hv:a.tmps.getD s Go.undef=v at this
   cases this with | ptr _ _ _ h1=>exact ⟨by show a.tmps.getD s Go.undef=_;rw [hv];simp,h1,Int.le_refl _⟩
  ·cases h
 ·exact eptr_val hg R h
include hT hg hgd hH
theorem so_indexAddr {t:TypeId} {x i:Operand} (hop:o.op = .indexAddr t x i) (h:evObj Ar.std T σ.n g H o=some (some (ss,h'))):StepOk P σ o ss h':=by
 simp only [evObj,hop,idxLo_std,idxHi_std] at h
 split at h
 ·rename_i a0 k lo ln hx
  simp only [zp3] at h
  split at h
  ·rename_i sz e zc kz z ht hi
   split at h
   ·rename_i td hte
    split at h
    ·rename_i hb
     simp [Ar.std] at hb
     obtain ⟨⟨hz0,hz1⟩,rfl⟩:=hb
     refine stepOk_pure hgd h (by simp [hop]) (AV.free_place rfl) ?_
     intro G a w R
     have h1:=(opv_ok hg R hi .no).1
     cases h1 with | d _ _ _ h1 =>
     generalize hei:a.eval i=vi at h1
     cases h1
     obtain ⟨b,off,cap,hv,hnh,hlo,hn,hcap,hbo⟩:=mref_val hg R (slotE_mref hx)
     obtain ⟨rfl,rfl⟩:=hbo (by omega)
     have hzz:z<(ln.toNat:Int):=by omega
     have hmx : ¬ max ln 0<=z:=by omega
     refine ⟨.pointer (some ⟨G.β (.o a0),lo.toNat*td.size+z.toNat*td.size,none⟩),?_,fun d => ?_⟩
     ·simp [execOp,hop,hv,hei,Instr.indexAt,asIntOf,Go.underlying,hT.slice ht,hz0,hzz,hmx,hT.size hte,Addr.add_none]
     ·have:=RepV.eptr (G:=G) (w:=w) (.s d) a0 td.size (lo+z) 0 hnh (by omega)
      have e:(lo+z).toNat*td.size+0=lo.toNat*td.size+z.toNat*td.size:=by
       rw [Nat.add_zero,<-Nat.add_mul];congr 1;omega
      rw [e] at this
      exact this
    ·cases h
   ·cases h
  ·cases h
 ·rename_i a0 k i0 j0 hx
  simp only [zp3] at h
  split at h
  ·rename_i sz mm e zc kz z ht hi
   split at h
   ·rename_i td hte
    split at h
    ·rename_i hb
     simp [Ar.std] at hb
     obtain ⟨⟨hz0,hz1⟩,rfl⟩:=hb
     refine stepOk_pure hgd h (by simp [hop]) (AV.free_place (by cases i <;> rfl)) ?_
     intro G a w R
     have h1:=(opv_ok hg R hi .no).1
     cases h1 with | d _ _ _ h1 =>
     generalize hei:a.eval i=vi at h1
     cases h1
     obtain ⟨hv,hnh,hi0⟩:=eptr_valE hg R hx
     refine ⟨.pointer (some ⟨G.β (.o a0),i0.toNat*1+j0+z.toNat*td.size,none⟩),?_,fun d => ?_⟩
     ·simp [execOp,hop,hv,hei,Instr.indexAt,asIntOf,Go.underlying,hT.array ht,Instr.sureAddr,hz0,hz1,hT.size hte,Addr.add_none]
     ·have hdyn:RepV G w (.s d) (.eptr a0 1 (Ar.std.zadd i0 (Ar.std.zmul z td.size)) j0) (.pointer (some ⟨G.β (.o a0),i0.toNat*1+j0+z.toNat*td.size,none⟩)):=by
       have hzs:0<=z*(td.size:Int):=Int.mul_nonneg hz0 (by omega)
       have:=RepV.eptr (G:=G) (w:=w) (.s d) a0 1 (i0+z*td.size) j0 hnh (by omega)
       have e:(i0+z*(td.size:Int)).toNat*1+j0=i0.toNat*1+j0+z.toNat*td.size:=by
        have:(z*(td.size:Int)).toNat=z.toNat*td.size:=by
         rw [Int.toNat_mul hz0 (by omega)];rfl
        omega
       rw [e] at this
       exact this
      cases i with
      | const _ =>
        have:=RepV.eptr (G:=G) (w:=w) (.s d) a0 1 i0 (j0+z.toNat*td.size) hnh hi0
        rw [<-Nat.add_assoc] at this
        exact this
      | _=>exact hdyn
    ·cases h
   ·cases h
  ·cases h
 ·cases h
theorem so_fieldAddr {t:TypeId} {x:Operand} {f:Nat} (hop:o.op = .fieldAddr t x f) (h:evObj Ar.std T σ.n g H o=some (some (ss,h'))):StepOk P σ o ss h':=by
 simp only [evObj,hop] at h
 split at h
 ·rename_i a0 k i j hx
  simp only [zp3] at h
  split at h
  ·rename_i ft off sz hf
   split at h
   ·cases h
   ·rename_i hsz
    obtain ⟨s,fs,z,td,ht,hfs,hft,rfl⟩:=fieldOf_some hf
    obtain ⟨fields,hu,hmap⟩:=hT.struct ht
    have hfield : ∃ fld,fields[f]?=some fld/\fld.type=ft/\fld.offset=off:=by
     rw [<-hmap] at hfs
     simp at hfs
     obtain ⟨fld,h1,h2,h3⟩:=hfs
     exact ⟨fld,h1,h2,h3⟩
    obtain ⟨fld,h1,rfl,rfl⟩:=hfield
    refine stepOk_pure hgd h (by simp [hop]) (AV.free_place rfl) ?_
    intro G a w R
    obtain ⟨hv,hnh,hi⟩:=eptr_val hg R hx
    refine ⟨.pointer (some ⟨G.β (.o a0),i.toNat*k+j+fld.offset,none⟩),?_,fun d => ?_⟩
    ·simp [execOp,hop,hv,Instr.fieldAt,Go.underlying,hu,h1,Instr.sureAddr,fieldPlace,hT.size hft,hsz,Addr.add_none]
    ·have:=RepV.eptr (G:=G) (w:=w) (.s d) a0 k i (j+fld.offset) hnh hi
     rwa [<-Nat.add_assoc] at this
  ·cases h
 ·cases h
theorem so_load {t:TypeId} {x:Operand} (hop:o.op = .load t x) (h:evObj Ar.std T σ.n g H o=some (some (ss,h'))):StepOk P σ o ss h':=by
 simp only [evObj,hop] at h
 split at h
 ·rename_i a0 k i j hx
  simp only [zp3] at h
  split at h
  ·rename_i td k' l ht hHi
   split at h
   ·rename_i hkk
    subst hkk
    split at h
    ·rename_i hag
     simp only [zp4,decide_eq_true_eq] at hag
     obtain ⟨rfl,hagg⟩:=hag
     split at h
     ·rename_i hb
      rw [zp4] at hb
      obtain ⟨hb1,hb2⟩:=hb
      have hb2 : ∀ x∈Ar.std.sub l (Ar.std.zadd i j) (Ar.std.zadd (Ar.std.zadd i j) td.size),x.isOne=true:=List.all_eq_true.1 hb2
      simp only [Ar.std,decide_eq_true_eq] at hb1
      have hσ:=hH _ _ hHi
      refine stepOk_pure hgd h (by simp [hop]) (AV.free_place rfl) ?_
      intro G a w R
      obtain ⟨hv,hnh,hi⟩:=eptr_valE hg R hx
      obtain ⟨vs,e,hO,hw,hu,hs,h1,hh⟩:=R.h.objs a0 _ hσ
      have hfl:=flat_length hu
      let p:=i.toNat+j
      have hp:(i+(j:Int)).toNat=p:=by omega
      have hpn:(i+(j:Int)+(td.size:Int)).toNat-p=td.size:=by omega
      have hle:p+td.size<=l.length:=by omega
      let sub:=(l.drop p).take td.size
      have hsub:Ar.std.sub l (Ar.std.zadd i j) (Ar.std.zadd (Ar.std.zadd i j) td.size)=sub:=by
       show ((l.drop (i+(j:Int)).toNat).take ((i+(j:Int)+(td.size:Int)).toNat-(i+(j:Int)).toNat))=sub
       rw [hp,hpn]
      rw [hsub] at hb2 ⊢
      have hsl:sub.length=td.size:=by simp [sub];omega
      have each : ∀ (q:Nat) (hq:q<sub.length),RepD G.K sub[q] (vs.getD (p+q) Go.undef)/\(vs.getD (p+q) Go.undef).oneCell'=true:=by
       intro q hq
       have hpq:p+q<l.length:=by omega
       have hge:l[p+q]?=some sub[q]:=by
        rw [zp1 hpq];simp [sub]
       have hfg:=flat_get hu hge 0 (by omega)
       rw [isOne_cells (hb2 _ (zp6 hq))] at hfg
       simp only [Nat.mul_one,Nat.add_zero,List.getElem?_cons_zero] at hfg
       have hj:p+q<(D.flat l).length:=by omega
       rw [zp1 hj] at hfg
       have:=hh _ hj
       rw [Option.some.inj hfg] at this
       exact ⟨this,h1 _ hj⟩
      obtain ⟨av,hav⟩ : ∃ av,readAt td (sub.map AV.d) 0=some av:=⟨_,by unfold readAt cut;rw [if_pos (by simp [hsl])];simp only [hagg,if_true];rfl⟩
      have hld:=loadVar_ok hT ht (G:=G) (w:=w) (b:=G.β (.o a0)) (o:=p) (off:=0) (cs:=sub.map .d) (vs:=fun q=>vs.getD (p+q) Go.undef)
       (fun q hq=>by simp at hq;exact cell_at hw (by omega)) (fun q hq=>⟨.no,by simp at hq;simpa using RepV.d (G:=G) (w:=w) .no _ _ (each q (by simpa using hq)).1⟩)
       (isCell_of_rep (K:=G.K) (fun q hq=>(each q hq).2) (fun q hq=>(each q hq).1)) hav
      have hav':av = .d (.agg sub):=by
       unfold readAt cut at hav
       rw [if_pos (by simp [hsl])] at hav
       simp only [hagg,if_true,List.drop_zero] at hav
       rw [List.take_of_length_le (by simp [hsl])] at hav
       injection hav with hav
       rw [<-hav]
       have:dataOf (sub.map AV.d)=some sub:=by
        clear hav hld each hsub hsl hb2
        generalize sub=s
        induction s with
        | nil=>rfl
        | cons x r ih=>simp [dataOf,ih]
       simp [mkAgg,this]
      obtain ⟨v,hr,_,hrep⟩:=hld
      rw [hav'] at hrep
      refine ⟨v,?_,fun d=>hrep _⟩
      rw [show p+0=i.toNat+j by simp [p]] at hr
      rw [Nat.mul_one] at hv
      simp [execOp,hop,hv,Instr.loadAt,Instr.sureAddr,hr]
     ·cases h
    split at h
    ·rename_i y hy
     simp only [Ar.std] at hy
     obtain ⟨av,hav,hp⟩:=putO_some h
     have hσ:=hH _ _ hHi
     obtain ⟨i1,hi1⟩ : ∃ i1,eI Ar.std k' i j=i1:=⟨_,rfl⟩
     obtain ⟨j1,hj1⟩ : ∃ j1,eJ k' j=j1:=⟨_,rfl⟩
     have hij:=fun hi=>eIJ k' (i:=i) j hi
     rw [hi1,hj1] at hij
     replace hy:l[i1.toNat]?=some y:=by rw [<-hi1];exact hy
     rw [hj1] at hav
     have run : ∀ G a w,Rel G σ a w -> ∃ v,(loadVar t ⟨G.β (.o a0),i1.toNat*k'+j1,none⟩).run P w = .ok v w/\av.free=true /\ ∀ ℓ,RepV G w ℓ av v:=by
      generalize i1=i,j1=j at *
      intro G a w R
      obtain ⟨vs,e,hO,hw,hu,hs,h1,hh⟩:=R.h.objs a0 _ hσ
      have hyl:y.cells.length=k':=hu y (List.mem_of_getElem? hy)
      have hfl:=flat_length hu
      have hlt:i.toNat<l.length:=(zp2.1 hy).1
      have hmul:i.toNat*k'+k'<=l.length*k':=by rw [<-Nat.succ_mul];exact Nat.mul_le_mul_right _ hlt
      have hcell : ∀ (q:Nat) (hq:q<y.cells.length),RepD G.K y.cells[q] (vs.getD (i.toNat*k'+q) Go.undef)/\(vs.getD (i.toNat*k'+q) Go.undef).oneCell'=true:=by
       intro q hq
       have hfg:=flat_get hu hy q (by omega)
       have hj:i.toNat*k'+q<(D.flat l).length:=by omega
       rw [zp1 hj,zp1 hq] at hfg
       have:=hh _ hj
       rw [Option.some.inj hfg] at this
       exact ⟨this,h1 _ hj⟩
      exact loadVar_ok hT ht (G:=G) (w:=w) (b:=G.β (.o a0)) (o:=i.toNat*k') (off:=j) (cs:=y.cells.map .d) (vs:=fun q=>vs.getD (i.toNat*k'+q) Go.undef)
       (fun q hq=>by simp at hq;exact cell_at hw (by omega)) (fun q hq=>⟨.no,by simp at hq;simpa using RepV.d (G:=G) (w:=w) .no _ _ (hcell q hq).1⟩)
       (isCell_of_rep (K:=G.K) (fun q hq=>(hcell q hq).2) (fun q hq=>(hcell q hq).1)) hav
     intro r n m G a w Q next hm R hn
     obtain ⟨_,_,hfree,_⟩:=run G a w R
     refine stepOk_pure hgd hp (by simp [hop]) (AV.free_place (AV.free_isLocal hfree)) ?_ r n m G a w Q next hm R hn
     intro G a w R
     obtain ⟨hv,hnh,hi⟩:=eptr_valE hg R hx
     obtain ⟨v,hr,_,hrep⟩:=run G a w R
     rw [(hij hi).1] at hv
     exact ⟨v,by simp [execOp,hop,hv,Instr.loadAt,Instr.sureAddr,hr],fun d=>hrep _⟩
    ·cases h
   ·cases h
  ·cases h
 ·cases h
theorem so_slice {t:TypeId} {x:Operand} {lo hi mx:Option Operand} (hop:o.op = .slice t x lo hi mx) (h:evObj Ar.std T σ.n g H o=some (some (ss,h'))):StepOk P σ o ss h':=by
 simp only [evObj,hop] at h
 split at h
 ·rename_i a0 k l0 ln hx
  simp only [zp3] at h
  split at h
  ·rename_i es zh zl hes hbh hbl
   obtain ⟨sz,e,z,td,ht,hte,rfl⟩:=elemSize_some hes
   split at h
   ·rename_i hc
    simp [Ar.std] at hc
    obtain ⟨⟨⟨⟨hk,hz0⟩,hz1⟩,hz2⟩,hmx⟩:=hc
    subst hmx hk
    refine stepOk_pure hgd h (by simp [hop]) (AV.free_place rfl) ?_
    intro G a w R
    obtain ⟨b,off,cap,hv,hnh,hlo,hn,hcap,hbo⟩:=mref_val hg R hx
    obtain ⟨nl,rfl⟩:=zp9 hz0
    obtain ⟨nh,rfl⟩:=zp9 (Int.le_trans hz0 hz1)
    have h1:nl<=nh:=by omega
    have h2:nh<=cap:=by omega
    have hrun:=run_sliceBounds (P:=P) (w:=w) (len:=ln.toNat) (cap:=cap) (nl:=nl) (nh:=nh) (m:=cap) (low:=lo.map a.eval) (high:=hi.map a.eval) (max:=none)
     (by cases lo with
      | none=>simp [bound] at hbl;exact .inl ⟨rfl,by omega⟩
      | some y=>obtain ⟨kk,e⟩:=bound_some hg hbl R;exact .inr ⟨kk,by simp [e]⟩)
     (by cases hi with
      | none=>simp [bound] at hbh;exact .inl ⟨rfl,by omega⟩
      | some y=>obtain ⟨kk,e⟩:=bound_some hg hbh R;exact .inr ⟨kk,by simp [e]⟩)
     (.inl ⟨rfl,rfl⟩) h1 h2 (Nat.le_refl _)
    refine ⟨_,by simp [execOp,hop,Instr.sliceAt,Instr.slice,Go.underlying,hT.slice ht,hv,hrun,hT.size hte];rfl,fun d => ?_⟩
    simp only [Ar.std]
    have e1:((nh:Int)-(nl:Int)).toNat=nh-nl:=by omega
    by_cases hm:cap=nl
    ·rw [if_pos hm]
     have:=RepV.mref (G:=G) (w:=w) (.s d) a0 td.size (l0+nl) ((nh:Int)-nl) b off (cap-nl) hnh (by omega) (by omega) (by omega) (by omega)
     rwa [e1] at this
    ·rw [if_neg hm]
     have:=RepV.mref (G:=G) (w:=w) (.s d) a0 td.size (l0+nl) ((nh:Int)-nl) b (off+nl*td.size) (cap-nl) hnh (by omega) (by omega) (by omega) (fun hlt=>by
      obtain ⟨rfl,rfl⟩:=hbo (by omega)
      refine ⟨rfl,?_⟩
      rw [<-Nat.add_mul];congr 1;omega)
     rw [e1] at this
     simpa [Addr.add_none] using this
   ·cases h
  ·cases h
 ·cases h
theorem so_len {args:Array Operand} {ts:Array TypeId} (hop:o.op = .call { callee := .builtin .len,args:=args,argTypes:=ts }) (h:evObj Ar.std T σ.n g H o=some (some (ss,h'))):StepOk P σ o ss h':=by
 simp only [evObj,hop] at h
 split at h
 ·rename_i x t hargs hts
  obtain rfl:args = #[x]:=by cases args;simp_all
  obtain rfl:ts = #[t]:=by cases ts;simp_all
  split at h
  ·rename_i a0 k lo ln sz e z hx ht
   simp only [zp3] at h
   refine stepOk_pure hgd h (by simp [hop]) (AV.free_place rfl) ?_
   intro G a w R
   obtain ⟨b,off,cap,hv,hnh,hlo,hn,hcap,hbo⟩:=mref_val hg R hx
   refine ⟨.int .i64 ln,?_,fun d => .d _ _ _ (.int _ _)⟩
   simp [execOp,hop,resolve,invoke,Go.builtin,Builtin.len_,Builtin.lenOf,hv,goInt,Go.underlying,hT.slice ht,Int.toNat_of_nonneg hn]
  ·cases h
 ·cases h
theorem so_store {t:TypeId} {x y:Operand} (hop:o.op = .store t x y) (h:evObj Ar.std T σ.n g H o=some (some (ss,h'))) (hHe:H=σ.heap):StepOk P σ o ss h':=by
 have hnd : ∀ c,o.op ≠ .defer c:=by simp [hop]
 subst hHe
 simp only [evObj,hop] at h
 split at h
 ·rename_i a0 k i j hx
  simp only [zp3] at h
  split at h
  ·rename_i td k' l v ht hHi hv hdst
   split at h
   ·rename_i hkk
    obtain ⟨rfl,hpos⟩:=hkk
    split at h
    ·rename_i hag
     simp only [zp4,decide_eq_true_eq] at hag
     obtain ⟨rfl,hagg⟩:=hag
     cases v with | agg cs => ?_ | _=>cases h
     obtain ⟨v,hve⟩ : ∃ v:D,v = .agg cs:=⟨_,rfl⟩
     have hcs:cs=v.cells:=by rw [hve];rfl
     rw [<-hve] at hv
     simp only [hcs] at h
     split at h
     ·rename_i hb
      simp only [zp4] at hb
      obtain ⟨hb1,hvl⟩:=hb
      simp only [Ar.std,decide_eq_true_eq] at hb1 hvl
      have hvl:v.cells.length=td.size:=by omega
      simp only [zp3,Prod.mk.injEq] at h
      obtain ⟨rfl,rfl⟩:=h
      intro r n m G a w Q next hm R hn
      obtain ⟨hpt,hnh,hi0⟩:=eptr_valE hg R hx
      have hrv:=opD_some hg R hv
      have hb2 : ∀ x∈v.cells,x.isOne=true:=by
       subst hve
       generalize a.eval y=vv at hrv
       cases hrv with | agg _ vs hs hh h1 =>
       intro x hx
       obtain ⟨q,hq,rfl⟩:=List.mem_iff_getElem.1 hx
       refine isOne_of_rep (hh q hq) (h1 _ ?_)
       simp [Array.getD,hs,show q<cs.length from hq]
      obtain ⟨cur,e,hO,hw,hu,hs,h1,hh⟩:=R.h.objs a0 _ hHi
      have hfl:=flat_length hu
      obtain ⟨hvs,hvc,hv1⟩:=hrv.cells
      obtain ⟨p,hp⟩ : ∃ p,i.toNat+j=p:=⟨_,rfl⟩
      have hpI:(i+(j:Int)).toNat=p:=by omega
      have hle:p+td.size<=l.length:=by omega
      have hspl:Ar.std.spl l (Ar.std.zadd i j) v.cells=l.take p++v.cells++l.drop (p+v.cells.length):=by
       show l.take (i+(j:Int)).toNat++v.cells++l.drop ((i+(j:Int)).toNat+v.cells.length)=_
       rw [hpI]
      rw [hspl] at hn
      have hvs':(a.eval y).cells.size=td.size:=by omega
      have hone : ∀ z∈(a.eval y).cells.toList,z.oneCell'=true:=by
       intro z hz
       obtain ⟨q,hq,rfl⟩:=List.mem_iff_getElem.1 hz
       have hq1:q<(a.eval y).cells.size:=by simpa using hq
       have:=hv1 q (by omega)
       simpa [Array.getD,hq1] using this
      have hrun:=storeVar_run hT ht hw (off:=p) (v:=a.eval y) hvs' (by omega) hone
      have el:=write_length l v.cells p (by omega)
      have hu':uniform 1 (l.take p++v.cells++l.drop (p+v.cells.length)):=by
       intro x hx
       simp only [List.mem_append] at hx
       rcases hx with (hx | hx) | hx
       ·exact hu x (List.mem_of_mem_take hx)
       ·rw [isOne_cells (hb2 x hx)];rfl
       ·exact hu x (List.mem_of_mem_drop hx)
      have hfl':=flat_length hu'
      have each : ∀ (q:Nat) (hq:q<(D.flat (l.take p++v.cells++l.drop (p+v.cells.length))).length),RepD G.K (D.flat (l.take p++v.cells++l.drop (p+v.cells.length)))[q] ((rowOf cur p (a.eval y).cells.toList).getD q Go.undef) /\
        ((rowOf cur p (a.eval y).cells.toList).getD q Go.undef).oneCell'=true:=by
       intro q hq
       have hql:q<l.length:=by omega
       have hql':q<(l.take p++v.cells++l.drop (p+v.cells.length)).length:=by omega
       have e1:=write_get l v.cells p q (by omega)
       have hfg:=flat_get hu' (i:=q) (y:=(l.take p++v.cells++l.drop (p+v.cells.length))[q]) (zp1 hql') 0 (by omega)
       simp only [Nat.mul_one,Nat.add_zero] at hfg
       rw [zp1 hq] at hfg
       rw [zp1 hql'] at e1
       rw [rowOf_get (by simp;omega)]
       simp only [Array.length_toList,hvs']
       by_cases c1:q<p
       ·rw [if_pos c1] at e1 ⊢
        rw [zp1 hql] at e1
        have hfo:=flat_get hu (i:=q) (y:=l[q]) (zp1 hql) 0 (by omega)
        simp only [Nat.mul_one,Nat.add_zero] at hfo
        have hqo:q<(D.flat l).length:=by omega
        rw [zp1 hqo] at hfo
        rw [Option.some.inj e1,<-hfo] at hfg
        rw [Option.some.inj hfg]
        exact ⟨hh q hqo,h1 q hqo⟩
       ·rw [if_neg c1] at e1 ⊢
        by_cases c2:q<p+td.size
        ·rw [if_pos (by omega)] at e1 ⊢
         rw [zp1 (by omega)] at e1
         rw [Option.some.inj e1,isOne_cells (hb2 _ (zp6 _))] at hfg
         simp only [List.getElem?_cons_zero] at hfg
         rw [Option.some.inj hfg]
         have:=hvc (q-p) (by omega)
         have h2:=hv1 (q-p) (by omega)
         simp only [zp5] at this h2
         simp only [List.getD_eq_getElem?_getD,Array.getElem?_toList]
         exact ⟨this,h2⟩
        ·rw [if_neg (by omega)] at e1 ⊢
         rw [zp1 hql] at e1
         have hfo:=flat_get hu (i:=q) (y:=l[q]) (zp1 hql) 0 (by omega)
         simp only [Nat.mul_one,Nat.add_zero] at hfo
         have hqo:q<(D.flat l).length:=by omega
         rw [zp1 hqo] at hfo
         rw [Option.some.inj e1,<-hfo] at hfg
         rw [Option.some.inj hfg]
         exact ⟨hh q hqo,h1 q hqo⟩
      obtain ⟨hcore,hext⟩:=storeArr_core R hHi hw (l':=l.take p++v.cells++l.drop (p+v.cells.length)) (row:=rowOf cur p (a.eval y).cells.toList) hu' (by rw [rowOf_size (by simp;omega)];omega) (fun q hq=>(each q hq).2) (fun q hq=>(each q hq).1)
      rw [show i.toNat*1+j=p by omega] at hpt
      refine wp_skip' hnd (w':=w.setRow (G.β (.o a0)) (rowOf cur p (a.eval y).cells.toList)) (by simp [execOp,hop,hpt,Instr.storeAt,Instr.sureAddr,hrun]) (hn G _ _ ?_ (hext m))
      rw [hdst]
      simpa [Act.put] using hcore
     ·cases h
    have hvl:v.cells.length=td.size:=by
     split at h
     ·assumption
     ·cases h
    rw [if_pos hvl] at h
    split at h
    ·rename_i y0 hy0
     obtain ⟨i1,hi1⟩ : ∃ i1,eI Ar.std k' i j=i1:=⟨_,rfl⟩
     obtain ⟨j1,hj1⟩ : ∃ j1,eJ k' j=j1:=⟨_,rfl⟩
     have hij:=fun hi=>eIJ k' (i:=i) j hi
     rw [hi1,hj1] at hij
     rw [hi1] at hy0 h
     rw [hj1] at h
     have eptr_val : ∀ {G:Gh} {a:Act} {w:World} (_:Less g σ) (_:Rel G σ a w) (_:slotE g σ.heap x = .eptr a0 k' i j),a.eval x = .pointer (some ⟨G.β (.o a0),i1.toNat*k'+j1,none⟩)/\a0<G.nh/\0<=i1:=by
      intro G a w hg R hx
      obtain ⟨q1,q2,q3⟩:=eptr_valE hg R hx
      rw [(hij q3).1] at q1
      exact ⟨q1,q2,(hij q3).2⟩
     simp only [Ar.std] at hy0 h

     have main : ∀ (v':D),(y0.cells.length=k'->v'.cells.length=k'/\j1+td.size<=k' /\
       (∀ q,q<k'->v'.cells[q]?=if j1<=q/\q<j1+td.size then v.cells[q-j1]? else y0.cells[q]?))->StepOk P σ o [] (some (σ.heap.set a0 (.arr k' (l.set i1.toNat v')))):=by
      intro v' hall r n m G a w Q next hm R hn
      obtain ⟨hpt,hnh,hi0⟩:=eptr_val hg R hx
      have hrv:=opD_some hg R hv
      obtain ⟨cur,e,hO,hw,hu,hs,h1,hh⟩:=R.h.objs a0 _ hHi
      obtain ⟨hv',hjk,hcells⟩:=hall (hu y0 (List.mem_of_getElem? hy0))
      have hk0:0<k':=by omega
      obtain ⟨hu',hl',hget⟩:=flat_set hk0 hu hy0 hv'
      have hfl:=flat_length hu
      have hlt:i1.toNat<l.length:=(zp2.1 hy0).1
      have hmul:i1.toNat*k'+k'<=l.length*k':=by rw [<-Nat.succ_mul];exact Nat.mul_le_mul_right _ hlt
      obtain ⟨hvs,hvc,hv1⟩:=hrv.cells
      have hvs':(a.eval y).cells.size=td.size:=by omega
      have hone : ∀ z∈(a.eval y).cells.toList,z.oneCell'=true:=by
       intro z hz
       obtain ⟨q,hq,rfl⟩:=List.mem_iff_getElem.1 hz
       have hq1:q<(a.eval y).cells.size:=by simpa using hq
       have:=hv1 q (by omega)
       simpa [Array.getD,hq1] using this
      have hrun:=storeVar_run hT ht hw (off:=i1.toNat*k'+j1) (v:=a.eval y) hvs' (by omega) hone
      have hrow : ∀ q,q<(D.flat l).length->(rowOf cur (i1.toNat*k'+j1) (a.eval y).cells.toList).getD q Go.undef=if i1.toNat*k'+j1<=q/\q<i1.toNat*k'+j1+td.size then (a.eval y).cells.getD (q-(i1.toNat*k'+j1)) Go.undef else cur.getD q Go.undef:=by
       intro q hq
       rw [rowOf_get (by simp;omega)]
       simp only [Array.length_toList,hvs']
       by_cases c1:q<i1.toNat*k'+j1
       ·rw [if_pos c1,if_neg (by omega)]
       ·rw [if_neg c1]
        by_cases c2:q<i1.toNat*k'+j1+td.size
        ·rw [if_pos c2,if_pos (by omega)];simp [List.getD,zp5]
        ·rw [if_neg c2,if_neg (by omega)]
      have each : ∀ (q:Nat) (hq:q<(D.flat (l.set i1.toNat v')).length),RepD G.K (D.flat (l.set i1.toNat v'))[q] ((rowOf cur (i1.toNat*k'+j1) (a.eval y).cells.toList).getD q Go.undef) /\
        ((rowOf cur (i1.toNat*k'+j1) (a.eval y).cells.toList).getD q Go.undef).oneCell'=true:=by
       intro q hq
       have hg0:=hget q
       rw [zp1 hq] at hg0
       rw [hrow q (by omega)]
       by_cases c:i1.toNat*k'+j1<=q/\q<i1.toNat*k'+j1+td.size
       ·rw [if_pos c]
        rw [if_pos (by omega),hcells _ (by omega),if_pos (by omega)] at hg0
        rw [show q-i1.toNat*k'-j1=q-(i1.toNat*k'+j1) by omega,zp1 (by omega)] at hg0
        rw [Option.some.inj hg0]
        exact ⟨hvc _ (by omega),hv1 _ (by omega)⟩
       ·rw [if_neg c]
        have hold:(D.flat (l.set i1.toNat v'))[q]=(D.flat l)[q]'(by omega):=by
         by_cases c2:i1.toNat*k'<=q/\q<i1.toNat*k'+k'
         ·rw [if_pos c2,hcells _ (by omega),if_neg (by omega)] at hg0
          have:=flat_get hu hy0 (q-i1.toNat*k') (by omega)
          rw [show i1.toNat*k'+(q-i1.toNat*k')=q by omega,zp1 (by omega)] at this
          rw [<-this] at hg0
          exact Option.some.inj hg0
         ·rw [if_neg c2,zp1 (by omega)] at hg0
          exact Option.some.inj hg0
        rw [hold]
        exact ⟨hh q (by omega),h1 q (by omega)⟩
      obtain ⟨hcore,hext⟩:=storeArr_core R hHi hw (l':=l.set i1.toNat v') (row:=rowOf cur (i1.toNat*k'+j1) (a.eval y).cells.toList) hu' (by rw [rowOf_size (by simp;omega)];omega) (fun q hq=>(each q hq).2) (fun q hq=>(each q hq).1)
      refine wp_skip' hnd (w':=w.setRow (G.β (.o a0)) (rowOf cur (i1.toNat*k'+j1) (a.eval y).cells.toList)) (by simp [execOp,hop,hpt,Instr.storeAt,Instr.sureAddr,hrun]) (hn G _ _ ?_ (hext m))
      rw [hdst]
      simpa [Act.put] using hcore
     split at h
     ·rename_i hc
      obtain ⟨rfl,hsz⟩:=hc
      cases h
      exact main v (fun _=>⟨by omega,by omega,fun q hq=>by rw [if_pos (by omega)];simp⟩)
     ·split at h
      ·rename_i cs
       split at h
       ·rename_i hc2
        cases h
        refine main (.agg (cs.take j1++v.cells++cs.drop (j1+td.size))) (fun hyk => ?_)
        replace hyk:cs.length=k':=hyk
        have hv2:j1+v.cells.length<=cs.length:=by omega
        have e:=write_get cs v.cells j1
        have el:=write_length cs v.cells j1 hv2
        rw [<-hvl]
        refine ⟨el.trans hyk,by omega,fun q hq => ?_⟩
        refine (e q hv2).trans ?_
        show _=if j1<=q/\q<j1+v.cells.length then v.cells[q-j1]? else cs[q]?
        by_cases c1:q<j1
        ·rw [if_pos c1,if_neg (by omega)]
        ·rw [if_neg c1]
         by_cases c2:q<j1+v.cells.length
         ·rw [if_pos c2,if_pos (by omega)]
         ·rw [if_neg c2,if_neg (by omega)]
       ·cases h
      ·cases h
    ·cases h
   ·cases h
  ·cases h
 ·cases h
theorem so_clear {args:Array Operand} {ts:Array TypeId} (hop:o.op = .call { callee := .builtin .clear,args:=args,argTypes:=ts }) (h:evObj Ar.std T σ.n g H o=some (some (ss,h'))) (hHe:H=σ.heap):StepOk P σ o ss h':=by
 have hnd : ∀ c,o.op ≠ .defer c:=by simp [hop]
 subst hHe
 simp only [evObj,hop,zp3] at h
 split at h
 ·rename_i x t hargs hts
  obtain rfl:args = #[x]:=by cases args;simp_all
  obtain rfl:ts = #[t]:=by cases ts;simp_all
  split at h
  ·rename_i a0 k lo ln sz e z hx ht
   split at h
   ·rename_i td k' l hte hHi
    split at h
    ·rename_i y hy
     split at h
     ·rename_i hc
      simp [Ar.std] at hc
      obtain ⟨⟨rfl,hsz⟩,hfit⟩:=hc
      subst hsz
      simp only [Option.map_eq_some_iff] at h
      obtain ⟨⟨ss1,h1⟩,hp,he⟩:=h
      simp [Ar.std] at he
      obtain ⟨rfl,rfl⟩:=he
      obtain ⟨rfl,hcase⟩:=put_some hp

      intro r n m G a w Q next hm R hn
      obtain ⟨b,off,cap,hv,hnh,hlo,hn0,hcap,hbo⟩:=mref_val hg R hx
      obtain ⟨vs,ec,hO,hw,hu,hs,hone,hh⟩:=R.h.objs a0 _ hHi
      obtain ⟨ie,de,hie,hde,hisz,_⟩:=hT.info hte
      obtain ⟨z0,hz0,hz0s,hyl,hzr⟩:=zeroD_ok hT hte hy hie
      have hfl:=flat_length hu
      obtain ⟨LO,rfl⟩:=zp9 hlo
      obtain ⟨N,rfl⟩:=zp9 hn0
      have hfit':LO+N<=l.length:=by omega
      have hdst' : ∀ (v:Value) (G':Gh) (w':World),Rel G' (σ.upd [] (some (σ.heap.set a0 (.arr td.size (fillStd l LO N y))))) a w'->v = .tuple #[] ->
        Rel G' (σ.upd ss1 (some (σ.heap.set a0 (.arr td.size (fillStd l LO N y))))) (a.put o.dst v) w':=by
       intro v G' w' R' hv
       subst hv
       rcases hcase with ⟨hd,rfl⟩ | ⟨d,hd,rfl,hlt,hb⟩
       ·rw [hd];simpa [Act.put,St.upd,esets] using R'
       ·rw [hd]
        have:=R'.put (d:=d) (v := .tuple #[]) (av := .tuple []) (.tuple _ [] #[] rfl (fun i hi=>by simp at hi) (by simp)) (fun r off e=>by cases e) (by rw [hgd d hd] at hb;exact hb) hlt
        simpa [St.upd,esets] using this
      by_cases hN:N=0
      ·subst hN
       have hfs:fillStd l LO 0 y=l:=by simp [fillStd]
       have hset:σ.heap.set a0 (.arr td.size l)=σ.heap:=by
        apply List.ext_getElem?
        intro i
        by_cases hi:a0=i
        ·subst hi;rw [List.getElem?_set_self (zp2.1 hHi).1,hHi]
        ·rw [List.getElem?_set_ne hi]
       have hrun:(execOp a.eval o).run P w = .ok (.value (.tuple #[])) w:=by
        simp [execOp,hop,resolve,invoke,Go.builtin,Builtin.clear_,hv,Go.underlying,hT.slice ht]
       refine wp_value hnd hrun (hn G _ _ (hdst' _ _ _ ?_ rfl) (Ext.refl _ _ _))
       simp only [Int.ofNat_eq_natCast,Int.natCast_zero] at hfs ⊢
       rw [hfs,hset]
       simpa [St.upd,esets] using R
      ·obtain ⟨rfl,rfl⟩:=hbo (by omega)
       have hmul:LO*td.size+N*td.size<=l.length*td.size:=by rw [<-Nat.add_mul];exact Nat.mul_le_mul_right _ hfit'
       let zs:=(Builtin.zeroCells z0.cells N).toList
       have hzl:zs.length=N*td.size:=by simp [zs,Builtin.zeroCells,hz0s]
       have hzg : ∀ q,q<N*td.size->zs.getD q Go.undef=z0.cells.getD (q%td.size) Go.undef:=by
        intro q hq
        have hpos:0<td.size:=by
         rcases Nat.eq_zero_or_pos td.size with h | h
         ·rw [h] at hq;simp at hq
         ·exact h
        have hm:=Nat.mod_lt q hpos
        simp [zs,Builtin.zeroCells,List.getD,hz0s,hq,Array.getD,hm]
       have hst:=run_storeCells_at P (G.β (.o a0)) (LO*td.size) ec zs 0 vs w hw (by omega) (fun v hv=>by
        obtain ⟨q,hq,rfl⟩:=List.mem_iff_getElem.1 hv
        have hq':q<N*td.size:=by omega
        have:=hzg q hq'
        rw [List.getD_eq_getElem?_getD,zp1 hq] at this
        simp only [Option.getD_some] at this
        rw [this]
        have hpos:0<td.size:=by
         rcases Nat.eq_zero_or_pos td.size with h | h
         ·rw [h] at hq';simp at hq'
         ·exact h
        exact (hzr (q%td.size) (by rw [hyl];exact Nat.mod_lt _ hpos) G.K).2)
       simp only [Nat.add_zero] at hst
       have hrun:(execOp a.eval o).run P w = .ok (.value (.tuple #[])) (w.setRow (G.β (.o a0)) (rowOf vs (LO*td.size) zs)):=by
        have hNN : ∃ N',N=N'+1:=⟨N-1,by omega⟩
        obtain ⟨N',hN'⟩:=hNN
        have key:(Builtin.clear_ #[t] o.type #[.slice (some ⟨G.β (.o a0),LO*td.size,none⟩) N cap]).run P w = .ok (.tuple #[]) (w.setRow (G.β (.o a0)) (rowOf vs (LO*td.size) zs)):=by
         subst hN'
         have hzz:(Builtin.zeroCells z0.cells (N'+1)).toList=zs:=rfl
         simp [Builtin.clear_,Go.underlying,hT.slice ht,zeroValue,typeInfo,hie,hz0,hzz,hst,rowOf]
        simp only [execOp,hop,resolve,invoke,Go.builtin,Sem.run_bind,Sem.run_pure,Result.andThen_ok]
        simp at hv
        simp [hv,key]
       have hrw:rowOf vs (LO*td.size) zs=rowOf vs (LO*td.size) zs:=rfl
       have huf:uniform td.size (fillStd l LO N y):=by
        intro x hx
        simp only [fillStd,Int.toNat_natCast,List.mem_append,List.mem_replicate] at hx
        rcases hx with (hx | ⟨_,rfl⟩) | hx
        ·exact hu x (List.mem_of_mem_take hx)
        ·exact hyl
        ·exact hu x (List.mem_of_mem_drop hx)
       have hlf:(fillStd l LO N y).length=l.length:=by simp [fillStd];omega
       have hff:(D.flat (fillStd l LO N y)).length=(D.flat l).length:=by rw [flat_length huf,flat_length hu,hlf]
       have each : ∀ (q:Nat) (hq:q<(D.flat (fillStd l LO N y)).length),RepD G.K (D.flat (fillStd l LO N y))[q] ((rowOf vs (LO*td.size) zs).getD q Go.undef)/\((rowOf vs (LO*td.size) zs).getD q Go.undef).oneCell'=true:=by
        intro q hq
        have hpos:0<td.size:=by
         rcases Nat.eq_zero_or_pos td.size with h | h
         ·rw [flat_length huf,h] at hq;simp at hq
         ·exact h
        have hqm:q%td.size<td.size:=Nat.mod_lt _ hpos
        have hqd:q / td.size<l.length:=by rw [Nat.div_lt_iff_lt_mul hpos];omega
        have hqq:q / td.size*td.size+q%td.size=q:=by rw [Nat.mul_comm];exact Nat.div_add_mod _ _
        have hel:(fillStd l LO N y)[q / td.size]?=if LO<=q / td.size/\q / td.size<LO+N then some y else l[q / td.size]?:=by
         simp only [fillStd,Int.toNat_natCast]
         by_cases c1:q / td.size<LO
         ·rw [if_neg (by omega),List.append_assoc,zp7 (by simp;omega),List.getElem?_take_of_lt c1]
         ·by_cases c2:q / td.size<LO+N
          ·rw [if_pos (by omega),List.append_assoc,zp8 (by simp;omega),zp7 (by simp;omega)]
           rw [List.getElem?_replicate,if_pos (by simp;omega)]
          ·rw [if_neg (by omega),zp8 (by simp;omega),List.getElem?_drop]
           congr 1;simp;omega
        rw [rowOf_get (by omega),hzl]
        by_cases c:LO<=q / td.size/\q / td.size<LO+N
        ·rw [if_pos c] at hel
         have hfg:=flat_get huf hel (q%td.size) hqm
         rw [hqq,zp1 hq,zp1 (by omega)] at hfg
         have l1:LO*td.size<=q:=by rw [<-hqq];exact Nat.le_trans (Nat.mul_le_mul_right _ c.1) (Nat.le_add_right _ _)
         have l2:q<LO*td.size+N*td.size:=by
          rw [<-Nat.add_mul,<-hqq]
          have:(q / td.size+1)*td.size<=(LO+N)*td.size:=Nat.mul_le_mul_right _ (by omega)
          rw [Nat.succ_mul] at this
          omega
         rw [if_neg (by omega),if_pos l2,hzg _ (by omega),Option.some.inj hfg]
         have hmod:(q-LO*td.size)%td.size=q%td.size:=by
          have:q=(q-LO*td.size)+LO*td.size:=by omega
          conv=>rhs;rw [this,Nat.add_mul_mod_self_right]
         rw [hmod]
         exact hzr _ (by omega) G.K
        ·rw [if_neg c] at hel
         have hfg:=flat_get huf (by rw [hel];exact zp1 hqd) (q%td.size) hqm
         have hfo:=flat_get hu (zp1 hqd) (q%td.size) hqm
         rw [hqq] at hfg hfo
         rw [<-hfo,zp1 hq,zp1 (by omega)] at hfg
         have hnot : ¬ (LO*td.size<=q/\q<LO*td.size+N*td.size):=by
          rintro ⟨c1,c2⟩
          rw [<-Nat.add_mul] at c2
          exact c ⟨(Nat.le_div_iff_mul_le hpos).2 c1,(Nat.div_lt_iff_lt_mul hpos).2 c2⟩
         have hval:(if q<LO*td.size then vs.getD q Go.undef else if q<LO*td.size+N*td.size then zs.getD (q-LO*td.size) Go.undef else vs.getD q Go.undef)=vs.getD q Go.undef:=by
          by_cases c1:q<LO*td.size
          ·rw [if_pos c1]
          ·rw [if_neg c1,if_neg (by omega)]
         rw [hval,Option.some.inj hfg]
         exact ⟨hh q (by omega),hone q (by omega)⟩
       obtain ⟨hcore,hext⟩:=storeArr_core R hHi hw (l':=fillStd l LO N y) (row:=rowOf vs (LO*td.size) zs) huf (by rw [rowOf_size (by omega)];omega) (fun q hq=>(each q hq).2) (fun q hq=>(each q hq).1)
       exact wp_value hnd hrun (hn G _ _ (hdst' _ _ _ hcore rfl) (hext m))
     ·cases h
    ·cases h
   ·cases h
  ·cases h
 ·cases h
end
theorem step_newAnyD {P:Program} {σ:St} {o:Oper} {ob:Obj} {v:AV} {d:Nat} (hdst:o.dst=some d) (hlt:d<σ.n) (hun:(σ.get d).isBox=false) (hnd : ∀ c,o.op ≠ .defer c) (hvl:v.isLocal=false)
  (hrun : ∀ G a w,Rel G σ a w -> ∃ (w1:World) (wo:Go.Obj) (val:Value),(w1.heap=w.heap/\w1.os=w.os/\w1.output=w.output/\w1.tape=w.tape/\w.drawn<=w1.drawn)/\(execOp a.eval o).run P w = .ok (.value val) (w1.alloc wo)/\(∀ c t f,wo = .cells c t f->f=(0,0)) /\
   ∀ G':Gh,G'.K=G.K->G'.O w.heap.size=some (.o σ.heap.length,0)->G'.β (.o σ.heap.length)=w.heap.size->G'.nh=σ.heap.length+1 ->
     RepObj G' (w1.alloc wo) σ.heap.length ob/\RepV G' (w1.alloc wo) (.s d) v val):StepOk P σ o [(d,v)] (some (σ.heap++[ob])):=by
 intro r n m G a w0 Q next hm R0 hn
 obtain ⟨w,wo,val,⟨hw1,hw2,hw3,hw4,hw5⟩,hr,hfz,hrep⟩:=hrun G a w0 R0
 have R:=R0.drew hw1
 have hsz:w0.heap.size=w.heap.size:=by rw [hw1]
 rw [hsz] at hrep
 let G':Gh:={ (G.own w.heap.size (.o G.nh) 0).at (.o G.nh) w.heap.size with nh:=G.nh+1 }
 have hOold : ∀ b x f,G.O b=some (x,f)->G'.O b=some (x,f):=by
  intro b x f h
  have:=(R.h.disj b x f h).1
  simp [G',Gh.own,Gh.at,Nat.ne_of_lt this,h]
 have hβold : ∀ i,i<G.nh->G'.β (.o i)=G.β (.o i):=by
  intro i hi
  simp [G',Gh.own,Gh.at,Nat.ne_of_lt hi]
 have hpr:Pres G G' w (w.alloc wo) (fun _=>True) :=
  ⟨KLe.refl _,fun b x f _ h=>⟨hOold b x f h,heap_alloc_lt (R.h.disj b x f h).1⟩,hβold,Nat.le_succ _⟩
 obtain ⟨hob',hv'⟩:=hrep G' rfl (by rw [R.h.nh];simp [G',Gh.own,Gh.at]) (by rw [R.h.nh];simp [G',Gh.at]) (by rw [R.h.nh])
 refine wp_value hnd hr (hn G' _ _ ?_ ((Ext.drew hw1 hw2 hw3 hw4 hw5).trans (Ext.alloc (KLe.refl _) (fun x v h => .inl h) (fun b hb h=>by simp [G',Gh.own,Gh.at,Nat.ne_of_lt hb,h]) (fun i hi=>hβold i (by omega)) (frozen?_alloc_new _ _ hfz))))
 rw [hdst]
 have hd':d<a.tmps.size:=by rw [R.size];exact hlt
 have hnopl : ∀ t off,σ.get t ≠ .place d off:=by
  intro t off e
  obtain ⟨cs,h⟩:=R.places t d off e
  rw [h] at hun;simp [AV.isBox] at hun
 refine ⟨⟨⟨fun b x f h => ?_⟩,?_,fun i ob hob => ?_,fun x v h=>cell_alloc_old (R.h.kept x v h),fun b x f h => ?_⟩,by simpa [Act.put,St.upd] using R.size,?_,?_,?_⟩
 ·simp only [G',Gh.own,Gh.at] at h
  split at h
  ·simp at h;rw [<-h.1];simp [Loc.root]
  ·exact R.h.sane.no b x f h
 ·simp [St.upd,G',R.h.nh]
 ·simp only [St.upd,Option.getD_some] at hob
  rcases Nat.lt_or_ge i σ.heap.length with hi | hi
  ·rw [zp7 hi] at hob
   exact (R.h.objs i ob hob).pres R.h.sane (by rw [<-R.h.nh];exact hi) hpr trivial (fun _=>trivial)
  ·have hi':i=σ.heap.length:=by
    have:=(zp2.1 hob).1
    simp at this;omega
   subst hi'
   simp at hob
   subst hob
   exact hob'
 ·simp only [G',Gh.own,Gh.at] at h
  split at h
  ·rename_i hbe;subst hbe
   simp at h
   refine ⟨by simp,fun j _ => ?_⟩
   cases hK:G.K ⟨w.heap.size,j,none⟩ with
   | none=>simpa [G',Gh.own,Gh.at] using hK
   | some v=>exact absurd (World.block_lt_of_cell? w _ (R.h.kept _ _ hK)) (by simp)
  ·have:=R.h.disj b x f h
   exact ⟨by simp;omega,this.2⟩
 ·intro t
  simp only [Act.put,getD_set _ _ _ _ hd',St.upd,St.get,esets,List.foldl_cons,List.foldl_nil,eget_eset]
  split
  ·rename_i e';subst e'
   exact hv'
  ·refine (R.slots t).pres R.h.sane hpr trivial (fun r' off e'=>by simp [G',Gh.own,Gh.at]) (fun t' e' hbx=>⟨by simp [G',Gh.own,Gh.at],fun _=>trivial⟩)
 ·intro t r'' off' ht
  simp only [St.upd,St.get,esets,List.foldl_cons,List.foldl_nil,eget_eset] at ht ⊢
  split at ht
  ·subst ht;simp [AV.isLocal] at hvl
  ·obtain ⟨cs',hcs'⟩:=R.places t r'' off' ht
   split
   ·rename_i e;subst e;exact absurd ht (hnopl t off')
   ·exact ⟨cs',hcs'⟩
 ·refine ⟨R.df.1,fun x hx => ?_⟩
  obtain ⟨r0,h1,h2,h3⟩:=R.df.2 x hx
  exact ⟨r0,h1,hOold _ _ _ h2,by rw [heap_alloc_lt (R.h.disj _ _ _ h2).1];exact h3⟩
theorem step_newAny {P:Program} {σ:St} {o:Oper} {ob:Obj} {v:AV} {d:Nat} (hdst:o.dst=some d) (hlt:d<σ.n) (hun:(σ.get d).isBox=false) (hnd : ∀ c,o.op ≠ .defer c) (hvl:v.isLocal=false)
  (hrun : ∀ G a w,Rel G σ a w -> ∃ (wo:Go.Obj) (val:Value),(execOp a.eval o).run P w = .ok (.value val) (w.alloc wo)/\(∀ c t f,wo = .cells c t f->f=(0,0)) /\
   ∀ G':Gh,G'.K=G.K->G'.O w.heap.size=some (.o σ.heap.length,0)->G'.β (.o σ.heap.length)=w.heap.size->G'.nh=σ.heap.length+1 ->
     RepObj G' (w.alloc wo) σ.heap.length ob/\RepV G' (w.alloc wo) (.s d) v val):StepOk P σ o [(d,v)] (some (σ.heap++[ob])) :=
 step_newAnyD hdst hlt hun hnd hvl fun G a w R=>by
  obtain ⟨wo,val,h1,h2,h3⟩:=hrun G a w R
  exact ⟨w,wo,val,⟨rfl,rfl,rfl,rfl,Nat.le_refl _⟩,h1,h2,h3⟩
theorem setObj_core {G:Gh} {σ:St} {a:Act} {w:World} (R:Rel G σ a w) {i:Nat} {ob:Obj} {wo wo':Go.Obj} (hi:i<σ.heap.length) (hO:G.O (G.β (.o i))=some (.o i,0))
  (hw:w.heap[G.β (.o i)]?=some wo) (hf : ∀ x:World,x.heap[G.β (.o i)]?=some wo -> ∀ y:World,y.heap[G.β (.o i)]?=some wo' -> ∀ ad:Addr,ad.block=G.β (.o i)->y.frozen? ad=x.frozen? ad)
  (hrep : ∀ w',w'.heap[G.β (.o i)]?=some wo'->RepObj G w' i ob) :
  Rel G (σ.upd [] (some (σ.heap.set i ob))) a { w with heap:=w.heap.setIfInBounds (G.β (.o i)) wo' } /\ ∀ m,Ext m G w G { w with heap:=w.heap.setIfInBounds (G.β (.o i)) wo' }:=by
 let b:=G.β (.o i)
 let w':World:={ w with heap:=w.heap.setIfInBounds b wo' }
 have hlt:b<w.heap.size:=(Array.getElem?_eq_some_iff.1 hw).1
 have hself:w'.heap[b]?=some wo':=by simp [w',hlt]
 have hother : ∀ b',b'≠b->w'.heap[b']?=w.heap[b']?:=fun b' hne=>by simp [w',Ne.symm hne]
 have hpr:Pres G G w w' (fun x=>x ≠ .o i) :=
  ⟨KLe.refl _,fun b' x f hx h=>⟨h,hother _ (by rintro rfl;rw [hO] at h;simp at h;exact hx h.1.symm)⟩,fun _ _=>rfl,Nat.le_refl _⟩
 have hkept : ∀ x v,G.K x=some v->w'.cell? x=some v:=by
  intro x v h
  have hx:=R.h.kept x v h
  have hne:x.block≠b:=by
   intro hxb
   have hspot:=World.cell?_spot hx
   obtain ⟨xb,j,s⟩:=x
   simp at hspot hxb;subst hspot hxb
   have:=(R.h.disj _ _ _ hO).2 j (Nat.zero_le _)
   rw [show G.K ⟨b,j,none⟩=none from this] at h;cases h
  unfold World.cell? at *
  rwa [hother _ hne]
 refine ⟨⟨⟨R.h.sane,by simpa [St.upd] using R.h.nh,fun i' ob' hob => ?_,hkept,fun b' ℓ f h => ?_⟩,by simpa [St.upd] using R.size,?_,?_,?_⟩,fun m => ?_⟩
 ·simp only [St.upd,Option.getD_some] at hob
  by_cases hii:i=i'
  ·subst hii
   rw [List.getElem?_set_self hi] at hob
   injection hob with hob;subst hob
   exact hrep w' hself
  ·rw [List.getElem?_set_ne hii] at hob
   exact (R.h.objs i' ob' hob).pres R.h.sane (by rw [<-R.h.nh];exact (zp2.1 hob).1) hpr (by simp;exact fun e=>hii e.symm) (by simp)
 ·have:=R.h.disj b' ℓ f h;exact ⟨by simpa using this.1,this.2⟩
 ·intro t
  exact (R.slots t).pres R.h.sane hpr (by simp) (fun _ _ _=>rfl) (fun t' e' _=>⟨rfl,fun j=>by simp⟩)
 ·intro t r'' off' ht
  exact R.places t r'' off' ht
 ·refine ⟨R.df.1,fun x hx => ?_⟩
  obtain ⟨r0,h1,h2,h3⟩:=R.df.2 x hx
  refine ⟨r0,h1,h2,?_⟩
  have:r0≠b:=by rintro rfl;rw [show G.O b=_ from hO] at h2;cases h2
  exact (hother _ this).trans h3
 ·refine ⟨KLe.refl _,fun x v h => .inl h,fun b' _ h=>⟨hother _ (by rintro rfl;rw [show G.O b=_ from hO] at h;cases h),h⟩,by simp,fun _ _=>rfl,rfl,rfl,fun ad _ => ?_,rfl,Nat.le_refl _⟩
  by_cases hab:ad.block=b
  ·exact hf w hw w' hself ad hab
  ·unfold World.frozen?
   rw [show w'.heap[ad.block]?=w.heap[ad.block]? from hother _ hab]
theorem sameBits_list : ∀ {ks:List CK} {xs:List D},confD ks xs=true -> ∀ n,((xs.map D.sval).zip (xs.map D.sval)).all (fun (x,y)=>Instr.sameBits n x y)=true
 | [],[],_,n=>rfl
 | k::ks,x::xs,h,n=>by
   simp only [confD,zp4] at h
   have h1:Instr.sameBits n x.sval x.sval=true:=by
    cases k <;> cases x <;> simp [CK.fits] at h <;> simp [D.sval,Instr.sameBits,MapKept.bytes_beq]
   have h2:=sameBits_list h.2 n
   simp only [List.map_cons,List.zip_cons_cons,List.all_cons,h1,Bool.true_and]
   exact h2
 | [],_::_,h,_=>by simp [confD] at h
 | _::_,[],h,_=>by simp [confD] at h
theorem sameBits_ks {agg:Bool} {ks:List CK} {d:D} (h:keyConf agg ks d=true):Instr.sameBits 10000 (mkV agg d.cells) (mkV agg d.cells)=true:=by
 simp only [keyConf,zp4] at h
 obtain ⟨h,h2⟩:=h
 cases agg with
 | true =>
   have:=sameBits_list h 9999
   simpa [mkV,Instr.sameBits] using this
 | false =>
   have hc:d.cells=[d]:=by cases d <;> first | rfl | (simp at h2)
   rw [hc] at h ⊢
   match ks,h with
   | [k],h =>
     simp only [confD,Bool.and_true] at h
     cases k <;> cases d <;> simp [CK.fits] at h <;> simp [mkV,D.sval,Instr.sameBits,MapKept.bytes_beq]
   | [],h=>simp [confD] at h
   | _::_::_,h=>simp [confD] at h
theorem EntRep.size {K:Addr->Option Value} {agg:Bool} {ks:List CK} {es:List (D×D)} {ms:List MapEntry} (h:EntRep K agg ks es ms):ms.length=es.length:=by
 induction h with
 | nil=>rfl
 | cons _ _ ih=>simp [ih]
theorem EntRep.get {K:Addr->Option Value} {agg:Bool} {ks:List CK} {es:List (D×D)} {ms:List MapEntry} (h:EntRep K agg ks es ms) : ∀ {j:Nat} {p:D×D} {m:MapEntry},es[j]?=some p->ms[j]?=some m ->
  keyConf agg ks p.1=true/\m.key=mkV agg p.1.cells/\RepD K p.2 m.val:=by
 induction h with
 | nil=>intro j p m h1;simp at h1
 | cons hp _ ih =>
   intro j p m h1 h2
   cases j with
   | zero=>simp at h1 h2;subst h1 h2;exact hp
   | succ j=>exact ih (by simpa using h1) (by simpa using h2)
theorem EntRep.set {K:Addr->Option Value} {agg:Bool} {ks:List CK} {es:List (D×D)} {ms:List MapEntry} (h:EntRep K agg ks es ms) {p:D×D} {m:MapEntry} (hp:keyConf agg ks p.1=true/\m.key=mkV agg p.1.cells/\RepD K p.2 m.val) :
  ∀ (j:Nat),EntRep K agg ks (es.set j p) (ms.set j m):=by
 induction h with
 | nil=>intro j;exact .nil
 | cons hq h ih =>
   intro j
   cases j with
   | zero=>exact .cons hp h
   | succ j=>exact .cons hq (ih j)
theorem EntRep.push {K:Addr->Option Value} {agg:Bool} {ks:List CK} {es:List (D×D)} {ms:List MapEntry} (h:EntRep K agg ks es ms) {p:D×D} {m:MapEntry} (hp:keyConf agg ks p.1=true/\m.key=mkV agg p.1.cells/\RepD K p.2 m.val) :
  EntRep K agg ks (es++[p]) (ms++[m]):=by
 induction h with
 | nil=>exact .cons hp .nil
 | cons hq _ ih=>exact .cons hq ih
theorem Born.push {ms:Array MapEntry} {clock:Nat} (h:Born ms clock) (m:MapEntry) (hm:m.born=clock):Born (ms.push m) (clock+1):=by
 refine ⟨by rw [Array.size_push,h.1],fun j e he => ?_⟩
 rw [Array.getElem?_push] at he
 split at he
 ·rename_i hj
  cases he;rw [hm,h.1,hj]
 ·exact h.2 j e he
theorem Born.modify {ms:Array MapEntry} {clock:Nat} (h:Born ms clock) (i:Nat) (f:MapEntry->MapEntry) (hf : ∀ e,(f e).born=e.born):Born (ms.modify i f) clock:=by
 refine ⟨by rw [Array.size_modify,h.1],fun j e he => ?_⟩
 rw [Array.getElem?_modify] at he
 split at he
 ·obtain ⟨e0,h1,rfl⟩:=Option.map_eq_some_iff.1 he
  rw [hf];exact h.2 j e0 h1
 ·exact h.2 j e he
theorem mput_midx {es:List (D×D)} {k v0:D} (h:mget es k=some v0) (v:D):mput es k v=es.set (midx es k) (k,v):=by
 induction es with
 | nil=>simp [mget] at h
 | cons p r ih =>
   simp only [mget,mput,midx] at h ⊢
   by_cases hp:p.1=k
   ·simp [hp]
   ·rw [if_neg hp] at h ⊢
    rw [if_neg hp,ih h];rfl
theorem midx_get {es:List (D×D)} {k v0:D} (h:mget es k=some v0):es[midx es k]?=some (k,v0):=by
 induction es with
 | nil=>simp [mget] at h
 | cons p r ih =>
   simp only [mget,midx] at h ⊢
   by_cases hp:p.1=k
   ·rw [if_pos hp] at h ⊢
    cases h;subst hp;rfl
   ·rw [if_neg hp] at h ⊢
    simpa using ih h
theorem midx_of {es:List (D×D)} {k:D} {j:Nat} {p:D×D} (h1:es[j]?=some p) (h2:p.1=k) (h : ∀ v,mput es k v=es.set j (k,v)):midx es k=j:=by
 have hm : ∃ v0,mget es k=some v0:=by
  cases hh:mget es k with
  | some v0=>exact ⟨v0,rfl⟩
  | none =>
    have:=mget_mput es k (.bool true) k
    have h3:=mget_mput es k (.bool false) k
    exfalso
    have hl : ∀ {es:List (D×D)},mget es k=none -> ∀ q∈es,q.1≠k:=by
     intro es
     induction es with
     | nil=>simp
     | cons q r ih =>
       intro h0 q' hq'
       simp only [mget] at h0
       by_cases hq:q.1=k
       ·rw [if_pos hq] at h0;cases h0
       ·rw [if_neg hq] at h0
        rcases List.mem_cons.1 hq' with rfl | h4
        ·exact hq
        ·exact ih h0 _ h4
    exact hl hh p (List.mem_of_getElem? h1) h2
 obtain ⟨v0,hm⟩:=hm
 by_cases hne:midx es k=j
 ·exact hne
 ·exfalso
  have key : ∀ v,v=v0:=by
   intro v
   have h3:=mput_midx hm v
   rw [h v] at h3
   have h4:=congrArg (fun l=>l[midx es k]?) h3
   simp only [List.getElem?_set] at h4
   have h5:=midx_get hm
   have hlt:=(zp2.1 h5).1
   rw [if_neg (fun e=>hne e.symm)] at h4
   rw [h5] at h4
   simp [hlt] at h4;exact h4.symm
  have:=(key (.bool true)).trans (key (.bool false)).symm
  cases this
section
variable {P:Program} {T:Types} (hT:TOk P T) {σ:St} {g:Nat->AV} {o:Oper} {ss:Sets} {h':Option (List Obj)} {H:List Obj}
 (hg:Less g σ) (hgd : ∀ d,o.dst=some d->g d=σ.get d) (hH : ∀ (i:Nat) (ob:Obj),H[i]?=some ob->σ.heap[i]?=some ob)
theorem map_val {G:Gh} {a:Act} {w:World} (hg:Less g σ) (R:Rel G σ a w) {x:Operand} {i:Nat} (h:slotAV g x = .map i):a.eval x = .map (some (G.β (.o i)))/\i<G.nh:=by
 obtain ⟨s,rfl,hs⟩:=slotAV_some h (by simp)
 have:=hg.rep R s
 rw [hs] at this
 generalize hv:a.tmps.getD s Go.undef=v at this
 cases this with | map _ _ h1=>exact ⟨hv,h1⟩
theorem _root_.Go.Am.TOk.map' {P:Program} {T:Types} (hT:TOk P T) {t k e:TypeId} {sz:Nat} {z:List AV} (h:T t=some ⟨sz,.map k e,z⟩):P.underlying t=some (.map k e):=by
 obtain ⟨d,hd,hu⟩:=hT.under h
 cases d <;> simp [uOk] at hu
 obtain ⟨rfl,rfl⟩:=hu;exact hd
include hT hg hgd hH
theorem so_makeMap {t:TypeId} {rs:Option Operand} (hop:o.op = .makeMap t rs) (h:evObj Ar.std T σ.n g H o=some (some (ss,h'))) (hHe:H=σ.heap):StepOk P σ o ss h':=by
 have hnd : ∀ c,o.op ≠ .defer c:=by simp [hop]
 subst hHe
 simp only [evObj,hop,zp3] at h
 split at h
 ·rename_i sz kt et z d ht hdst
  split at h
  ·rename_i ks tk hks htk
   split at h
   ·rename_i hc
    simp at hc h
    obtain ⟨rfl,rfl⟩:=h
    refine step_newAny hdst hc.1 (by rw [<-hgd d hdst];exact hc.2) hnd rfl ?_
    intro G a w R
    refine ⟨.map #[] 0,.map (some w.heap.size),by simp [execOp,hop,Instr.makeMap],fun _ _ _ e=>(by cases e),fun G' hK hO hβ hnh=>⟨?_,?_⟩⟩
    ·refine ⟨#[],0,by rw [hβ];exact hO,by rw [hβ];exact heap_alloc_new,?_,rfl,fun j e h=>by simp at h⟩
     exact .nil
    ·have:=RepV.map (G:=G') (w:=w.alloc (.map #[] 0)) (.s d) σ.heap.length (by omega)
     rwa [hβ] at this
   ·cases h
  ·cases h
 ·cases h
theorem so_makeInterface {t:TypeId} {x:Operand} (hop:o.op = .makeInterface t x) (h:evObj Ar.std T σ.n g H o=some (some (ss,h'))):StepOk P σ o ss h':=by
 have hnd : ∀ c,o.op ≠ .defer c:=by simp [hop]
 simp only [evObj,hop,zp3] at h
 split at h
 ·rename_i sz ms z ht hx
  refine stepOk_pure hgd h hnd (AV.free_place rfl) ?_
  intro G a w R
  have h1:=opD_some hg R hx
  obtain ⟨i,hi,_,fs,hu⟩:=hT.meth ht
  have hv:a.eval x = .agg #[]:=by
   generalize a.eval x=v at h1
   cases h1 with | agg _ vs hs _ _ =>
   have:vs = #[]:=by apply Array.eq_empty_of_size_eq_zero;simpa using hs
   rw [this]
  refine ⟨.iface t (.agg #[]),?_,fun d => ?_⟩
  ·simp [execOp,hop,Instr.makeInterface,run_underlying hu,hv]
  ·have:=RepV.d (G:=G) (w:=w) (.s d) (.iface (Int.ofNat t)) _ (.iface (Int.ofNat t))
   unfold ifaceV at this
   rw [if_neg (by simp)] at this
   simpa using this
 ·cases h
theorem so_nilI {t t':TypeId} {x:Operand} {sz:Nat} {zz:List AV} {z:Int} (hop:o.op = .binOp .eql t x (.const .nilIface) t') (ht:T t=some ⟨sz,.iface,zz⟩) (hx:opD T g t x=some (.iface z)) (h:Am.put σ.n g o.dst (.d (.bool (Ar.std.zlt z 0)))=some (ss,h')):StepOk P σ o ss h':=by
 have hnd : ∀ c,o.op ≠ .defer c:=by simp [hop]
 refine stepOk_pure hgd h hnd (AV.free_place rfl) ?_
 intro G a w R
 have h1:=opD_some hg R hx
 obtain ⟨ms,hu⟩:=hT.iface ht
 have hv:a.eval x=ifaceV z:=by
  generalize a.eval x=v at h1
  cases h1;rfl
 have hc:a.eval (.const .nilIface) = .nilIface:=rfl
 refine ⟨.bool (decide (z<0)),?_,fun d => .d _ _ _ (.bool _)⟩
 have h1 : ∀ d:Nat,(Op.equalIn (d+1) t (ifaceV z) .nilIface).run P w = .ok (decide (z<0)) w:=fun d=>by
  unfold ifaceV
  by_cases hz:z<0
  ·rw [if_pos hz];simp [Op.equalIn,Go.underlying,hu,hz]
  ·rw [if_neg hz];simp [Op.equalIn,Go.underlying,hu,hz]
 have heq:(Op.equal t (ifaceV z) .nilIface).run P w = .ok (decide (z<0)) w:=by
  simp [Op.equal,Op.maxDepth,h1 9999]
 have hg0:(eqGuard .eql t x (.const .nilIface) (ifaceV z) .nilIface).run P w = .ok () w:=by
  unfold ifaceV
  by_cases hz:z<0
  ·rw [if_pos hz];simp [eqGuard]
  ·rw [if_neg hz];simp [eqGuard]
 have hb:(binOp .eql t (ifaceV z) .nilIface).run P w = .ok (.bool (decide (z<0))) w:=by
  have:binOp .eql t (ifaceV z) .nilIface=(do pure (.bool (<-Op.equal t (ifaceV z) .nilIface))):=by
   unfold ifaceV
   by_cases hz:z<0
   ·rw [if_pos hz];rfl
   ·rw [if_neg hz];rfl
  rw [this]
  simp [heq]
 simp only [execOp,hop,hv,hc]
 simp [hg0,hb]
theorem so_makeSlice {t:TypeId} {ln cp:Operand} (hop:o.op = .makeSlice t ln cp) (h:evObj Ar.std T σ.n g H o=some (some (ss,h'))) (hHe:H=σ.heap):StepOk P σ o ss h':=by
 have hnd : ∀ c,o.op ≠ .defer c:=by simp [hop]
 subst hHe
 simp only [evObj,hop,zp3] at h
 split at h
 ·rename_i sz e z kz z1 kz' z1' d ht hln hcp hdst
  split at h
  ·rename_i td hte
   split at h
   ·rename_i y hy
    split at h
    ·rename_i hc
     simp [Ar.std] at hc h
     obtain ⟨⟨⟨⟨⟨hlt,hb⟩,hpos⟩,rfl⟩,hz0⟩,hfit⟩:=hc
     obtain ⟨rfl,rfl⟩:=h
     refine step_newAny hdst hlt (by rw [<-hgd d hdst];exact hb) hnd rfl ?_
     intro G a w R
     have h1:=opD_some hg R hln
     have h2:=opD_some hg R hcp
     obtain ⟨ie,de,hie,hde,hisz,hbytes,_⟩:=hT.info hte
     obtain ⟨z0,hz0',hz0s,hyl,hzr⟩:=zeroD_ok hT hte hy hie
     obtain ⟨N,rfl⟩:=zp9 hz0
     have e1:a.eval ln = .int kz N:=by generalize hv:a.eval ln=v at h1;cases h1;rfl
     have e2:a.eval cp = .int kz' N:=by generalize hv:a.eval cp=v at h2;cases h2;rfl
     have hmk:=run_make (P:=P) w t e ie z0 (hT.slice ht) hie hz0' kz kz' N N (by omega) (Int.le_refl _) (by
      have:ie.bytes*N<=4096*4294967296:=Nat.mul_le_mul hbytes (by omega)
      have h3:((ie.bytes*N:Nat):Int)<=281474976710656:=by omega
      rwa [Int.natCast_mul] at h3) (by omega)
     simp only [Int.toNat_natCast,hisz] at hmk
     have hu:uniform td.size (List.replicate N y):=fun x hx=>by rw [(List.mem_replicate.1 hx).2];exact hyl
     have hfl:=flat_length hu
     have hget : ∀ q,q<N*td.size->(madeCells z0.cells (N*td.size)).getD q Go.undef=z0.cells.getD (q%td.size) Go.undef:=by
      intro q hq
      have hm:=Nat.mod_lt q hpos
      simp [madeCells,hz0s,hq,Array.getD,hm]
     refine ⟨.cells (madeCells z0.cells (N*td.size)) e (0,0),.slice (some ⟨w.heap.size,0,none⟩) N N,by simp [execOp,hop,e1,e2,hmk],fun _ _ _ e=>by cases e;rfl,fun G' hK hO hβ hnh=>⟨?_,?_⟩⟩
     ·simp only [Int.toNat_natCast]
      have each : ∀ (q:Nat) (hq:q<(D.flat (List.replicate N y)).length),RepD G'.K (D.flat (List.replicate N y))[q] ((madeCells z0.cells (N*td.size)).getD q Go.undef)/\((madeCells z0.cells (N*td.size)).getD q Go.undef).oneCell'=true:=by
       intro q hq
       have hq':q<N*td.size:=by simpa [hfl] using hq
       have hqm:q%td.size<td.size:=Nat.mod_lt _ hpos
       have hqd:q / td.size<N:=by rw [Nat.div_lt_iff_lt_mul hpos];exact hq'
       have hqq:q / td.size*td.size+q%td.size=q:=by rw [Nat.mul_comm];exact Nat.div_add_mod _ _
       have hfg:=flat_get hu (i:=q / td.size) (y:=y) (by rw [List.getElem?_replicate,if_pos hqd]) (q%td.size) hqm
       rw [hqq,zp1 hq,zp1 (by omega)] at hfg
       rw [Option.some.inj hfg,hget q hq']
       exact hzr _ _ _
      exact ⟨_,e,by rw [hβ];exact hO,by rw [hβ];exact heap_alloc_new,hu,by rw [size_madeCells,hfl];simp,fun q hq=>(each q hq).2,fun q hq=>(each q hq).1⟩
     ·have:=RepV.mref (G:=G') (w:=w.alloc (.cells (madeCells z0.cells (N*td.size)) e (0,0))) (.s d) σ.heap.length td.size 0 (N:Int) w.heap.size 0 N (by omega) (Int.le_refl _) (by omega) (by simp) (fun _=>⟨hβ.symm,by simp⟩)
      simpa using this
    ·cases h
   ·cases h
  ·cases h
 ·cases h
theorem so_lookup {t:TypeId} {x ix:Operand} {ok:Bool} (hop:o.op = .lookup t x ix ok) (h:evObj Ar.std T σ.n g H o=some (some (ss,h'))):StepOk P σ o ss h':=by
 have hnd : ∀ c,o.op ≠ .defer c:=by simp [hop]
 simp only [evObj,hop,zp3] at h
 split at h
 ·rename_i sz kt et z a0 ht hx
  split at h
  ·rename_i ks tk te ag ks' es k hks htk hte hHi hk
   split at h
   ·rename_i hc
    simp [keyConfA_std] at hc
    obtain ⟨⟨rfl,hkc⟩,rfl⟩:=hc
    have hσ:=hH _ _ hHi

    have run : ∀ G a w,Rel G σ a w -> ∃ v b,(Instr.lookup t (a.eval x) (a.eval ix) ok).run P w = .ok (if ok then .tuple #[v,.bool b] else v) w /\
      ((b=true /\ ∃ d,mget es k=some d/\RepD G.K d v)\/(b=false/\mget es k=none /\ ∀ d,zeroD te=some d->RepD G.K d v)):=by
     intro G a w R
     obtain ⟨hv,hnh⟩:=map_val hg R hx
     have hrk:=opD_some hg R hk
     have hkv:=keyConf_rep hkc hrk
     obtain ⟨ms,clock,hO,hw,he,_⟩:=R.h.objs a0 _ hσ
     have hck:=checkKey_ks hT ms.isEmpty hks htk (xs:=k.cells) (by simp only [keyConf,zp4] at hkc;exact hkc.1) 10000 (by omega) w
     obtain ⟨ie,de,hie,hde,hisz,hbytes,hu,z0,hz0,hz1,hz2,hz3⟩:=hT.info hte
     rcases findKey_ks hT hks htk (Nat.le_refl 8) hkc w he with ⟨h1,h2,h3⟩ | ⟨j,e,p,h1,h2,h3,h4,h5,h6⟩
     ·refine ⟨z0,false,?_,.inr ⟨rfl,h2,fun d hd => ?_⟩⟩
      ·rw [hv,hkv]
       simp [Instr.lookup,run_underlying (hT.map' ht),MapKept.run_getObj_map hw,hck,h1,zeroValue,typeInfo,hie,hz0]
      ·exact zeroD_rep hT hte hd hie hz0 G.K
     ·refine ⟨e.val,true,?_,.inl ⟨rfl,p.2,h5,(he.get h3 h2).2.2⟩⟩
      rw [hv,hkv]
      simp [Instr.lookup,run_underlying (hT.map' ht),MapKept.run_getObj_map hw,hck,h1]
    have fin : ∀ (d:D) (b:Bool),put σ.n g o.dst (bif ok then .tuple [.d d,.d (.bool b)] else .d d)=some (ss,h') ->
      (∀ G a w,Rel G σ a w -> ∃ v,(Instr.lookup t (a.eval x) (a.eval ix) ok).run P w = .ok (if ok then .tuple #[v,.bool b] else v) w/\RepD G.K d v)->StepOk P σ o ss h':=by
     intro d b hp hr
     refine stepOk_pure hgd hp hnd ?_ ?_
     ·intro r off e;cases ok <;> simp at e
     ·intro G a w R
      obtain ⟨v,hv,hrep⟩:=hr G a w R
      refine ⟨_,by simp [execOp,hop,hv];rfl,fun dd => ?_⟩
      cases ok with
      | false=>exact .d _ _ _ hrep
      | true =>
        refine .tuple _ _ _ rfl (fun i hi => ?_) (by simp [AV.isLocal])
        match i,hi with
        | 0,_=>exact .d _ _ _ hrep
        | 1,_=>exact .d _ _ _ (.bool b)
        | i+2,hi=>simp at hi;omega
    cases hm:mget es k with
    | some d =>
      simp only [Ar.std,hm] at h
      refine fin d true h fun G a w R => ?_
      obtain ⟨v,b,h1,⟨rfl,d',h2,h3⟩ | ⟨_,h2,_⟩⟩:=run G a w R
      ·rw [hm] at h2;cases h2;exact ⟨v,h1,h3⟩
      ·rw [hm] at h2;cases h2
    | none =>
      simp only [Ar.std,hm] at h
      split at h
      ·rename_i d hd
       refine fin d false h fun G a w R => ?_
       obtain ⟨v,b,h1,⟨_,d',h2,h3⟩ | ⟨rfl,h2,h3⟩⟩:=run G a w R
       ·rw [hm] at h2;cases h2
       ·exact ⟨v,h1,h3 d hd⟩
      ·cases h
   ·cases h
  ·cases h
 ·cases h
theorem so_mapEntry {t:TypeId} {x ix:Operand} (hop:o.op = .mapEntry t x ix) (h:evObj Ar.std T σ.n g H o=some (some (ss,h'))):StepOk P σ o ss h':=by
 have hnd : ∀ c,o.op ≠ .defer c:=by simp [hop]
 simp only [evObj,hop,zp3] at h
 split at h
 ·rename_i sz kt et z a0 ht hx
  split at h
  ·rename_i ks tk ag ks' es k hks htk hHi hk
   split at h
   ·rename_i hc
    simp [keyConfA_std] at hc
    obtain ⟨⟨rfl,hkc⟩,rfl⟩:=hc
    have hσ:=hH _ _ hHi
    split at h
    ·rename_i v hm
     replace hm:mget es k=some v:=hm
     refine stepOk_pure hgd h hnd (by intro r off e;cases e) ?_
     intro G a w R
     obtain ⟨hv,hnh⟩:=map_val hg R hx
     have hrk:=opD_some hg R hk
     have hkv:=keyConf_rep hkc hrk
     obtain ⟨ms,clock,hO,hw,he,hB⟩:=R.h.objs a0 _ hσ
     have hck:=checkKey_ks hT false hks htk (xs:=k.cells) (by simp only [keyConf,zp4] at hkc;exact hkc.1) 10000 (by omega) w
     rcases findKey_ks hT hks htk (Nat.le_refl 8) hkc w he with ⟨h1,h2,h3⟩ | ⟨j,e,p,h1,h2,h3,h4,h5,h6⟩
     ·rw [hm] at h2;cases h2
     ·have hme:ms[j]?=some e:=by simpa using h2
      obtain ⟨hj,hje⟩:=Array.getElem?_eq_some_iff.1 hme
      have hek:=(he.get h3 h2).2.1
      have hval:=(he.get h3 h2).2.2
      rw [h4] at hek
      have hkey:(Instr.keyThatStays e.key (mkV tk.isAgg k.cells)).run P w = .ok (mkV tk.isAgg k.cells) w:=by
       have hsb:Instr.sameBits 10000 (mkV tk.isAgg k.cells) (mkV tk.isAgg k.cells)=true:=sameBits_ks hkc
       simp [Instr.keyThatStays,hek,hsb]
      have hsame:(ms.modify j fun e=>{ e with key:=mkV tk.isAgg k.cells })=ms:=by
       apply Array.ext_getElem?
       intro i
       rw [Array.getElem?_modify]
       by_cases hji:j=i
       ·subst hji
        have:({ e with key:=mkV tk.isAgg k.cells }:MapEntry)=e:=by rw [<-hek]
        simp [hme,this]
       ·simp [hji]
      have hworld:({ w with heap:=w.heap.setIfInBounds (G.β (.o a0)) (.map ms clock) }:World)=w:=by
       have:w.heap.setIfInBounds (G.β (.o a0)) (.map ms clock)=w.heap:=by
        apply Array.ext_getElem?
        intro i
        rw [Array.getElem?_setIfInBounds]
        by_cases hi:G.β (.o a0)=i
        ·subst hi
         obtain ⟨hlt,hwe⟩:=Array.getElem?_eq_some_iff.1 hw
         simp [hlt,hwe]
        ·simp [hi]
       rw [this]
      have hj2:midx es k=j:=midx_of h3 h4 h6
      have hborn:e.born=j:=hB.2 j e hme
      have hpv:p.2=v:=by rw [hm] at h5;cases h5;rfl
      refine ⟨.tuple #[e.val,goInt e.born],?_,fun dd => ?_⟩
      ·simp only [execOp,hop]
       rw [hv,hkv]
       simp [Instr.mapEntry,run_underlying (hT.map' ht),MapKept.run_getObj_map hw,hck,h1,hme,hkey,hsame,MapKept.run_setObj_map _ hw,hworld]
      ·refine .tuple _ _ _ rfl (fun i hi => ?_) (by simp [AV.isLocal])
       match i,hi with
       | 0,_=>exact .d _ _ _ (hpv▸hval)
       | 1,_ =>
         have hz:Ar.std.midx es k=(e.born:Int):=by show ((midx es k:Nat):Int)=_;rw [hj2,hborn]
         rw [show (([AV.d v,AV.d (.int .i64 (Ar.std.midx es k))]:List AV)[1])=AV.d (.int .i64 (e.born:Int)) by rw [<-hz];rfl]
         exact .d _ _ _ (.int _ _)
       | i+2,hi=>simp at hi;omega
    ·cases h
   ·cases h
  ·cases h
 ·cases h
theorem so_entryStore {t:TypeId} {x s y:Operand} (hop:o.op = .entryStore t x s y) (h:evObj Ar.std T σ.n g H o=some (some (ss,h'))) (hHe:H=σ.heap):StepOk P σ o ss h':=by
 have hnd : ∀ c,o.op ≠ .defer c:=by simp [hop]
 subst hHe
 simp only [evObj,hop,zp3] at h
 split at h
 ·rename_i sz kt et z a0 ht hx hdst
  split at h
  ·rename_i ag ks es zz v hHi hs hv
   split at h
   ·rename_i hc
    have hc:decide (0<=zz/\zz<(es.length:Int))=true:=hc
    simp at hc
    simp only [zp3,Prod.mk.injEq] at h
    obtain ⟨rfl,rfl⟩:=h
    intro r n m G a w Q next hm R hn
    obtain ⟨hmv,hnh⟩:=map_val hg R hx
    have hrs:=opD_some hg R hs
    have hrv:=opD_some hg R hv
    obtain ⟨ms,clock,hO,hw,he,hB⟩:=R.h.objs a0 _ hHi
    have hil:a0<σ.heap.length:=(zp2.1 hHi).1
    obtain ⟨N,rfl⟩:=zp9 hc.1
    have hsv:a.eval s = .int .i64 N:=by generalize a.eval s=vs at hrs;cases hrs;rfl
    have hN:N<ms.size:=by have:=he.size;simp at this;omega
    have hidx:ms.findIdx? (fun e=>(e.born:Int) == (N:Int))=some N:=by
     rw [Array.findIdx?_eq_some_iff_getElem]
     refine ⟨hN,?_,?_⟩
     ·have:=hB.2 N ms[N] (by simp [hN]);simp [this]
     ·intro j hj
      have hj':j<ms.size:=by omega
      have:=hB.2 j ms[j] (by simp [hj'])
      simp [this];omega
    obtain ⟨e,hme⟩ : ∃ e,ms[N]?=some e:=⟨_,Array.getElem?_eq_getElem hN⟩
    obtain ⟨p,hp⟩ : ∃ p,es[N]?=some p:=⟨_,zp1 (by omega)⟩
    have hent:EntRep G.K ag ks (Ar.std.mset es (N:Int) v) (ms.modify N fun e=>{ e with val:=a.eval y }).toList:=by
     have h0:=he.get hp (by simpa using hme)
     have:=he.set (p:=(p.1,v)) (m:={ e with val:=a.eval y }) ⟨h0.1,h0.2.1,hrv⟩ N
     have heq:(ms.modify N fun e=>{ e with val:=a.eval y }).toList=ms.toList.set N { e with val:=a.eval y }:=by
      apply List.ext_getElem?
      intro i
      rw [Array.getElem?_toList,Array.getElem?_modify,List.getElem?_set]
      by_cases hji:N=i
      ·subst hji
       obtain ⟨_,he2⟩:=Array.getElem?_eq_some_iff.1 hme
       simp [hN,he2]
      ·simp [hji]
     have heq2:Ar.std.mset es (N:Int) v=es.set N (p.1,v):=by
      show es.modify (N:Int).toNat (fun p=>(p.1,v))=_
      apply List.ext_getElem?
      intro i
      rw [Int.toNat_natCast,List.getElem?_modify,List.getElem?_set]
      by_cases hji:N=i
      ·subst hji
       obtain ⟨hl2,he2⟩:=zp2.1 hp
       simp [hl2,he2]
      ·simp [hji]
     rw [heq,heq2];exact this
    obtain ⟨hcore,hext⟩:=setObj_core R (i:=a0) (ob := .map ag ks (Ar.std.mset es (N:Int) v)) (wo' := .map (ms.modify N fun e=>{ e with val:=a.eval y }) clock) hil hO hw
     (fun x hx y hy ad hab=>by unfold World.frozen?;rw [hab,hx,hy])
     (fun w' hw'=>⟨_,clock,hO,hw',hent,hB.modify N _ fun _=>rfl⟩)
    refine wp_skip' hnd ?_ (hn G _ _ ?_ (hext m))
    ·simp only [execOp,hop]
     rw [hmv,hsv]
     simp [Instr.entryStore,MapKept.run_getObj_map hw,asInt,asIntOf,hidx,MapKept.run_setObj_map _ hw]
    ·rw [hdst]
     simpa [Act.put] using hcore
   ·cases h
  ·cases h
 ·cases h
theorem so_mapUpdate {t:TypeId} {x ix y:Operand} (hop:o.op = .mapUpdate t x ix y\/o.op = .insert t x ix y) (h:evObj Ar.std T σ.n g H o=some (some (ss,h'))) (hHe:H=σ.heap):StepOk P σ o ss h':=by
 have hnd : ∀ c,o.op ≠ .defer c:=by rcases hop with hop | hop <;> simp [hop]
 subst hHe
 have h:evObj Ar.std T σ.n g σ.heap { o with op := .mapUpdate t x ix y }=some (some (ss,h')):=by
  rw [<-h]
  rcases hop with hop | hop <;> simp only [evObj,hop]
 simp only [evObj,zp3] at h
 split at h
 ·rename_i sz kt et z a0 ht hx hdst
  split at h
  ·rename_i ks tk ag ks' es k v hks htk hHi hk hv
   split at h
   ·rename_i hc
    simp [keyConfA_std] at hc
    obtain ⟨⟨rfl,hkc⟩,rfl⟩:=hc
    simp only [Ar.std,zp3,Prod.mk.injEq] at h
    obtain ⟨rfl,rfl⟩:=h
    intro r n m G a w Q next hm R hn
    obtain ⟨hmv,hnh⟩:=map_val hg R hx
    have hrk:=opD_some hg R hk
    have hrv:=opD_some hg R hv
    have hkv:=keyConf_rep hkc hrk
    obtain ⟨ms,clock,hO,hw,he,hB⟩:=R.h.objs a0 _ hHi
    have hck:=checkKey_ks hT false hks htk (xs:=k.cells) (by simp only [keyConf,zp4] at hkc;exact hkc.1) 10000 (by omega) w
    have hil:a0<σ.heap.length:=(zp2.1 hHi).1
    have fin : ∀ (ms':Array MapEntry) (clock':Nat),(Instr.mapUpdate t (a.eval x) (a.eval ix) (a.eval y)).run P w = .ok () { w with heap:=w.heap.setIfInBounds (G.β (.o a0)) (.map ms' clock') } ->
      EntRep G.K tk.isAgg ks' (mput es k v) ms'.toList->Born ms' clock'->o.wpIn (Wd r) n P a w next Q:=by
     intro ms' clock' hrun hent hB' 
     obtain ⟨hcore,hext⟩:=setObj_core R (i:=a0) (ob := .map tk.isAgg ks' (mput es k v)) (wo' := .map ms' clock') hil hO hw
      (fun x hx y hy ad hab=>by unfold World.frozen?;rw [hab,hx,hy])
      (fun w' hw'=>⟨ms',clock',hO,hw',hent,hB'⟩)
     refine wp_skip' hnd (by rcases hop with hop | hop <;> simp only [execOp,hop] <;> simp [hrun]) (hn G _ _ ?_ (hext m))
     rw [hdst]
     simpa [Act.put] using hcore
    rcases findKey_ks hT hks htk (Nat.le_refl 8) hkc w he with ⟨h1,h2,h3⟩ | ⟨j,e,p,h1,h2,h3,h4,h5,h6⟩
    ·refine fin (ms.push { key:=a.eval ix,val:=a.eval y,born:=clock }) (clock+1) ?_ ?_ (hB.push _ rfl)
     ·rw [hmv,hkv]
      simp [Instr.mapUpdate,run_underlying (hT.map' ht),MapKept.run_getObj_map hw,hck,h1,MapKept.run_setObj_map _ hw]
     ·rw [h3]
      simpa using he.push (p:=(k,v)) (m:={ key:=a.eval ix,val:=a.eval y,born:=clock }) ⟨hkc,hkv,hrv⟩
    ·have hme:ms[j]?=some e:=by simpa using h2
     have hek:=(he.get h3 h2).2.1
     rw [h4] at hek
     have hkey:(Instr.keyThatStays e.key (mkV tk.isAgg k.cells)).run P w = .ok (mkV tk.isAgg k.cells) w:=by
      have hsb:Instr.sameBits 10000 (mkV tk.isAgg k.cells) (mkV tk.isAgg k.cells)=true:=sameBits_ks hkc
      simp [Instr.keyThatStays,hek,hsb]
     refine fin (ms.modify j fun e=>{ e with key:=mkV tk.isAgg k.cells,val:=a.eval y }) clock ?_ ?_ (hB.modify j _ fun _=>rfl)
     ·rw [hmv,hkv]
      simp [Instr.mapUpdate,run_underlying (hT.map' ht),MapKept.run_getObj_map hw,hck,h1,hme,hkey,MapKept.run_setObj_map _ hw]
     ·rw [h6]
      have:=he.set (p:=(k,v)) (m:={ e with key:=mkV tk.isAgg k.cells,val:=a.eval y }) ⟨hkc,rfl,hrv⟩ j
      obtain ⟨hj,hje⟩:=Array.getElem?_eq_some_iff.1 hme
      have heq:(ms.modify j fun e=>{ e with key:=mkV tk.isAgg k.cells,val:=a.eval y }).toList=ms.toList.set j { e with key:=mkV tk.isAgg k.cells,val:=a.eval y }:=by
       apply List.ext_getElem?
       intro i
       rw [Array.getElem?_toList,Array.getElem?_modify,List.getElem?_set]
       by_cases hji:j=i
       ·subst hji;simp [hme,hj,hje]
       ·simp [hji]
      rw [heq];exact this
   ·cases h
  ·cases h
 ·cases h
theorem so_eq {op:BinOp} {neg:Bool} (hneg:op=if neg then .neq else .eql) {t t':TypeId} {x y:Operand} (hop:o.op = .binOp op t x y t') {A B:D} (hx:opD T g 0 x=some A) (hy:opD T g 0 y=some B)
  (h:evEq Ar.std T σ.n g o.dst t A B neg=some (ss,h')):StepOk P σ o ss h':=by
 have hnd : ∀ c,o.op ≠ .defer c:=by simp [hop]
 unfold evEq at h
 split at h
 ·rename_i td ks r ht hks hr
  split at h
  ·rename_i hc
   simp only [zp4] at hc
   refine stepOk_pure hgd h hnd (AV.free_place rfl) ?_
   intro G a w R
   have h1:=keyConf_rep hc.1 (opD_some hg R hx)
   have h2:=keyConf_rep hc.2 (opD_some hg R hy)
   obtain ⟨r',hr',hiff⟩:=equal_ks hT hks ht (Nat.le_refl 8) hc.1 hc.2 w
   have hrr:r'=r:=by
    have:r=true↔A=B:=by
     unfold eqD at hr
     split at hr
     ·cases hr;simp [Ar.std]
     ·cases hr;simp [Ar.std]
     ·cases hr
    cases r <;> cases r' <;> simp_all
   subst hrr
   have hgu:(eqGuard op t x y (a.eval x) (a.eval y)).run P w = .ok () w:=by
    rw [h1,h2]
    cases hagg:td.isAgg with
    | true =>
      obtain ⟨de,hde,hek⟩:=hT.eqKnown ht
      simp only [eqKnown,zp4,decide_eq_true_eq] at hek
      simp only [mkV,if_true]
      exact run_eqGuard_agg w op t x y _ _ (eqGuard_ks hT hks _ hek.1)
    | false =>
      simp only [mkV,Bool.false_eq_true,if_false]
      unfold eqD at hr
      split at hr
      ·simp only [D.cells,D.sval]
       unfold eqGuard
       cases neg <;> simp at hneg <;> subst hneg <;> simp
      ·simp [keyConf,hagg] at hc
      ·cases hr
   refine ⟨.bool (bif neg then !r' else r'),?_,fun d => .d _ _ _ (.bool _)⟩
   have hb:(Go.binOp op t (a.eval x) (a.eval y)).run P w = .ok (.bool (bif neg then !r' else r')) w:=by
    rw [h1,h2]
    have hnp : ∀ d:D,(eqD Ar.std A B=some r')->True:=fun _ _=>trivial
    unfold eqD at hr
    split at hr
    ·have hna:td.isAgg=false:=by
      have:=hc.1;simp [keyConf] at this;exact this.2
     simp only [mkV,hna,Bool.false_eq_true,if_false,D.cells,D.sval] at hr' ⊢
     cases neg <;> simp at hneg <;> subst hneg <;> simp [Go.binOp,hr']
    ·have hna:td.isAgg=true:=by
      have:=hc.1;simp [keyConf] at this;exact this.2
     simp only [mkV,hna,if_true,D.cells] at hr' ⊢
     cases neg <;> simp at hneg <;> subst hneg <;> simp [Go.binOp,hr']
    ·cases hr
   simp [execOp,hop,hgu,hb]
  ·cases h
 ·cases h
theorem so_nil {t:TypeId} {x:Operand} {t':TypeId} (hop:o.op = .binOp .eql t x (.const (.slice none 0 0)) t') {sz:Nat} {e:TypeId} {z:List AV} (ht:T t=some ⟨sz,.slice e,z⟩) {k:Nat} {l:List D} (hx:opD T g t x=some (.list k l))
  (h:put σ.n g o.dst (bif Ar.std.zlt 0 (Ar.std.len l) then .d (.bool false) else .abool)=some (ss,h')):StepOk P σ o ss h':=by
 have hnd : ∀ c,o.op ≠ .defer c:=by simp [hop]
 refine stepOk_pure hgd h hnd (AV.free_place (by cases Ar.std.zlt 0 (Ar.std.len l) <;> rfl)) ?_
 intro G a w R
 have hr:=opD_some hg R hx
 have hsl : ∃ b cap,a.eval x = .slice b l.length cap/\(0<l.length->b.isNone=false):=by
  rcases hr.slice with ⟨rfl,oa,hv⟩ | ⟨b,off,cap,hv⟩
  ·exact ⟨_,_,hv,fun h=>by simp at h⟩
  ·exact ⟨_,_,hv,fun _=>rfl⟩
 obtain ⟨b,cap,hv,hb⟩:=hsl
 refine ⟨.bool b.isNone,?_,fun d => ?_⟩
 ·have he:=run_equal_slice_nil (P:=P) w t e b l.length cap (hT.slice ht)
  have hgd:(eqGuard .eql t x (.const (.slice none 0 0)) (.slice b l.length cap) (.slice none 0 0)).run P w = .ok () w:=by
   unfold eqGuard;simp
  have hbo:(Go.binOp .eql t (.slice b l.length cap) (.slice none 0 0)).run P w = .ok (.bool b.isNone) w:=by
   simp [Go.binOp,he]
  have hc:a.eval (.const (.slice none 0 0)) = .slice none 0 0:=rfl
  simp [execOp,hop,hv,hc,hgd,hbo]
 ·by_cases h0:0<l.length
  ·have:Ar.std.zlt 0 (Ar.std.len l)=true:=decide_eq_true (by show (0:Int)<(l.length:Int);omega)
   rw [this,hb h0]
   exact .d _ _ _ (.bool _)
  ·have:Ar.std.zlt 0 (Ar.std.len l)=false:=decide_eq_false (by show ¬ (0:Int)<(l.length:Int);omega)
   rw [this]
   exact .abool _ _
theorem so_minmax {mx:Bool} {args:Array Operand} {ts:Array TypeId} (hop:o.op = .call { callee := .builtin (if mx then .max else .min),args:=args,argTypes:=ts }) {x y:Operand} (hargs:args.toList=[x,y]) {k:IntKind} {A B:Int}
  (hx:opD T g 0 x=some (.int k A)) (hy:opD T g 0 y=some (.int k B)) (h:put σ.n g o.dst (.d (.int k (if mx then Ar.std.zmax A B else Ar.std.zmin A B)))=some (ss,h')):StepOk P σ o ss h':=by
 have hnd : ∀ c,o.op ≠ .defer c:=by simp [hop]
 obtain rfl:args = #[x,y]:=by cases args;simp_all
 refine stepOk_pure hgd h hnd (AV.free_place rfl) ?_
 intro G a w R
 have h1:=opD_some hg R hx
 have h2:=opD_some hg R hy
 generalize hv1:a.eval x=v1 at h1
 generalize hv2:a.eval y=v2 at h2
 cases h1;cases h2
 refine ⟨_,?_,fun d => .d _ _ _ (.int _ _)⟩
 cases mx
 ·simp [execOp,hop,resolve,invoke,Go.builtin,Builtin.min_,Builtin.min2,hv1,hv2,Ar.std]
 ·simp [execOp,hop,resolve,invoke,Go.builtin,Builtin.max_,Builtin.max2,hv1,hv2,Ar.std]
end
theorem evObj_ok {P:Program} {T:Types} (hT:TOk P T) {σ:St} {g:Nat->AV} {o:Oper} {ss:Sets} {h':Option (List Obj)} {H:List Obj} {an:Ann}
  (hg:Less g σ) (hgd : ∀ d,o.dst=some d->g d=σ.get d) (hH : ∀ (i:Nat) (ob:Obj),H[i]?=some ob->σ.heap[i]?=some ob) (hHe:heapy an g o=true->H=σ.heap)
  (h:evObj Ar.std T σ.n g H o=some (some (ss,h'))):StepOk P σ o ss h':=by
 have h0:=h
 have tmp : ∀ {x:Operand} {c:AV},slotAV g x=c->c ≠ .undef -> ∃ s,x = .tmp s/\g s=c:=fun h hc=>slotAV_some h hc
 cases hop:o.op with
 | indexAddr t x i=>exact so_indexAddr hT hg hgd hH hop h
 | fieldAddr t x f=>exact so_fieldAddr hT hg hgd hH hop h
 | load t x=>exact so_load hT hg hgd hH hop h
 | store t x y =>
   refine so_store hT hg hgd hH hop h (hHe ?_)
   simp only [evObj,hop] at h0
   split at h0
   ·rename_i hx
    unfold slotE at hx
    split at hx
    ·rename_i hb
     obtain ⟨s,rfl,hs⟩:=tmp hb (by simp)
     simp [heapy,hop,hs]
    ·obtain ⟨s,rfl,hs⟩:=tmp hx (by simp)
     simp [heapy,hop,hs]
   ·cases h0
 | slice t x a b c=>exact so_slice hT hg hgd hH hop h
 | makeSlice t a b=>exact so_makeSlice hT hg hgd hH hop h (hHe (by simp [heapy,hop]))
 | makeInterface t x=>exact so_makeInterface hT hg hgd hH hop h
 | makeMap t r=>exact so_makeMap hT hg hgd hH hop h (hHe (by simp [heapy,hop]))
 | lookup t x ix ok=>exact so_lookup hT hg hgd hH hop h
 | mapEntry t x ix=>exact so_mapEntry hT hg hgd hH hop h
 | entryStore t x s y =>
   refine so_entryStore hT hg hgd hH hop h (hHe ?_)
   simp only [evObj,hop,zp3] at h0
   split at h0
   ·rename_i hx _
    obtain ⟨s,rfl,hs⟩:=tmp hx (by simp)
    simp [heapy,hop,hs]
   ·cases h0
 | mapUpdate t x ix y =>
   refine so_mapUpdate hT hg hgd hH (.inl hop) h (hHe ?_)
   simp only [evObj,hop,zp3] at h0
   split at h0
   ·rename_i hx _
    obtain ⟨s,rfl,hs⟩:=tmp hx (by simp)
    simp [heapy,hop,hs]
   ·cases h0
 | insert t x ix y =>
   refine so_mapUpdate hT hg hgd hH (.inr hop) h (hHe ?_)
   simp only [evObj,hop,zp3] at h0
   split at h0
   ·rename_i hx _
    obtain ⟨s,rfl,hs⟩:=tmp hx (by simp)
    simp [heapy,hop,hs]
   ·cases h0
 | binOp op t x y t' =>
   cases op with
   | eql =>
     simp only [evObj,hop] at h
     split at h
     ·split at h
      ·rename_i ht hx
       simp only [zp3] at h
       exact so_nilI hT hg hgd hH hop ht hx h
      ·cases h
     ·split at h
      ·rename_i ht hx
       simp only [zp3] at h
       exact so_nil hT hg hgd hH hop ht hx h
      ·cases h
     ·split at h
      ·rename_i hx hy;simp only [zp3] at h
       exact so_eq hT hg hgd hH (neg:=false) rfl hop hx hy h
      ·rename_i hx hy;simp only [zp3] at h
       exact so_eq hT hg hgd hH (neg:=false) rfl hop hx hy h
      ·cases h
   | neq =>
     simp only [evObj,hop] at h
     split at h
     ·rename_i hx hy;simp only [zp3] at h
      exact so_eq hT hg hgd hH (neg:=true) rfl hop hx hy h
     ·rename_i hx hy;simp only [zp3] at h
      exact so_eq hT hg hgd hH (neg:=true) rfl hop hx hy h
     ·cases h
   | _=>simp [evObj,hop] at h
 | call c =>
   obtain ⟨callee,args,ts⟩:=c
   cases callee with
   | builtin b =>
     cases b with
     | len=>exact so_len hT hg hgd hH hop h
     | clear =>
       refine so_clear hT hg hgd hH hop h (hHe ?_)
       simp only [evObj,hop,zp3] at h0
       split at h0
       ·rename_i x t hargs hts
        split at h0
        ·rename_i hx _
         obtain ⟨s,rfl,hs⟩:=tmp hx (by simp)
         simp [heapy,hop,hargs,hs]
        ·cases h0
       ·cases h0
     | min =>
       simp only [evObj,hop,zp3] at h
       split at h
       ·rename_i x y hargs
        split at h
        ·rename_i k a k' b hx hy
         split at h
         ·rename_i hk;subst hk
          exact so_minmax hT hg hgd hH (mx:=false) hop hargs hx hy h
         ·cases h
        ·cases h
       ·cases h
     | max =>
       simp only [evObj,hop,zp3] at h
       split at h
       ·rename_i x y hargs
        split at h
        ·rename_i k a k' b hx hy
         split at h
         ·rename_i hk;subst hk
          exact so_minmax hT hg hgd hH (mx:=true) hop hargs hx hy h
         ·cases h
        ·cases h
       ·cases h
     | _=>simp [evObj,hop] at h
   | _=>simp [evObj,hop] at h
 | _=>simp [evObj,hop] at h
theorem evObj_len {A:Ar} {T:Types} {n:Nat} {g:Nat->AV} {H H':List Obj} {o:Oper} {ss:Sets} (h:evObj A T n g H o=some (some (ss,some H'))):H.length<=H'.length:=by
 have hput : ∀ {dst:Option Tmp} {v:AV},Am.put n g dst v≠some (ss,some H'):=by
  intro dst v e;have:=(put_some e).1;cases this
 have hputO : ∀ {dst:Option Tmp} {v:Option AV},putO n g dst v≠some (ss,some H'):=by
  intro dst v e;obtain ⟨x,_,e⟩:=putO_some e;exact hput e
 have hmap2 : ∀ {dst:Option Tmp} {v:AV} {q:Sets×Option (List Obj)->Sets} {H1:List Obj},H1.length=H.length->Option.map (fun p=>(q p,some H1)) (Am.put n g dst v)=some (ss,some H')->H.length<=H'.length:=by
  intro dst v q H1 hl e
  simp only [Option.map_eq_some_iff] at e
  obtain ⟨⟨s1,h1⟩,e1,e2⟩:=e
  simp at e2;rw [<-e2.2,hl];exact Nat.le_refl _
 have heq : ∀ {dst:Option Tmp} {t:TypeId} {a b:D} {ng:Bool},evEq A T n g dst t a b ng≠some (ss,some H'):=by
  intro dst t a b ng e
  unfold evEq at e
  split at e
  ·split at e
   ·exact hput e
   ·cases e
  ·cases e
 unfold evObj at h
 (repeat' split at h)
 all_goals (try simp only [zp3] at h)
 all_goals first
  | (cases h;done)
  | (exact absurd h hput)
  | (exact absurd h hputO)
  | (exact absurd h heq)
  | (exact hmap2 (by simp) h)
  | (simp at h;done)
  | (simp at h;rw [<-h.2];simp;done)
  | (simp at h;obtain ⟨_,rfl⟩:=h;simp;done)
end Go.Am

namespace Go.Am
open Go
theorem sameZ_eq {z:D} {c:AV} (h:sameZ z c=true):c = .d z:=by
 unfold sameZ at h
 split at h <;> simp at h
 ·obtain ⟨rfl,rfl⟩:=h;rfl
 ·rw [h]
theorem zrep_ok {zs:List AV} {z:D} (h:zrep zs=some z):zs=List.replicate zs.length (.d z):=by
 unfold zrep at h
 split at h
 ·rename_i z' r
  split at h
  ·rename_i hr
   cases h
   rw [List.all_eq_true] at hr
   refine List.eq_replicate_iff.2 ⟨rfl,fun c hc => ?_⟩
   rcases List.mem_cons.1 hc with rfl | hc
   ·rfl
   ·exact sameZ_eq (hr c hc)
  ·cases h
 ·cases h
theorem dataOf_rep : ∀ {cs:List AV} {ds:List D},dataOf cs=some ds->ds.length=cs.length /\ ∀ (j:Nat) (hj:j<ds.length) (hj':j<cs.length),∀ {G:Gh} {w:World} {ℓ:Loc} {v:Value},RepV G w ℓ cs[j] v->RepD G.K ds[j] v
 | [],ds,h=>by cases h;exact ⟨rfl,fun j hj=>by simp at hj⟩
 | c::r,ds,h=>by
   have step : ∀ {x:D},(∀ {G:Gh} {w:World} {ℓ:Loc} {v:Value},RepV G w ℓ c v->RepD G.K x v)->(dataOf r).map (x :: ·)=some ds->ds.length=(c::r).length /\ ∀ (j:Nat) (hj:j<ds.length) (hj':j<(c::r).length),∀ {G:Gh} {w:World} {ℓ:Loc} {v:Value},RepV G w ℓ (c::r)[j] v->RepD G.K ds[j] v:=by
    intro x hx h
    rw [Option.map_eq_some_iff] at h
    obtain ⟨ds',h1,rfl⟩:=h
    obtain ⟨i1,i2⟩:=dataOf_rep h1
    refine ⟨by simp [i1],fun j hj hj' => ?_⟩
    intro G w ℓ v hv
    cases j with
    | zero=>exact hx hv
    | succ j=>exact i2 j (by simpa using hj) (by simpa using hj') hv
   cases c with
   | d x=>exact step (fun hv=>by cases hv;assumption) (by simpa [dataOf] using h)
   | own k l=>exact step (fun hv=>by cases hv;assumption) (by simpa [dataOf] using h)
   | lim k l=>exact step (fun hv=>by cases hv;assumption) (by simpa [dataOf] using h)
   | tail k l=>exact step (fun hv=>by cases hv;assumption) (by simpa [dataOf] using h)
   | _=>simp [dataOf] at h
theorem uniform_one {l:List D} (h : ∀ x∈l,x.isOne=true):uniform 1 l:=fun x hx=>by rw [isOne_cells (h x hx)];rfl
theorem sub_nat (l:List D) (p n:Nat):Ar.std.sub l (p:Int) ((p:Int)+n)=(l.drop p).take n:=by
 show (l.drop (p:Int).toNat).take (((p:Int)+n).toNat-(p:Int).toNat)=_
 congr 1
 ·omega
theorem sub_rep {K:Addr->Option Value} {cs:List D} {vs:Array Value} (hs:vs.size=cs.length) (hh : ∀ (i:Nat) (hi:i<cs.length),RepD K cs[i] (vs.getD i undef)) (h1 : ∀ v∈vs,v.oneCell'=true) (p n:Nat) :
  RepD K (.agg ((cs.drop p).take n)) (.agg (vs.extract p (p+n))):=by
 refine .agg _ _ (by simp [hs];omega) (fun i hi => ?_) (fun v hv=>h1 v ?_)
 ·simp at hi
  have e1:((cs.drop p).take n)[i]'(by simp;omega)=cs[p+i]'(by omega):=by simp
  rw [e1]
  have:=hh (p+i) (by omega)
  simp only [zp5] at this ⊢
  rw [Array.getElem?_extract,if_pos (by omega)]
  exact this
 ·rw [Array.mem_iff_getElem] at hv
  obtain ⟨i,hi,rfl⟩:=hv
  simp at hi ⊢
section
variable {P:Program} {T:Types} (hT:TOk P T) {σ:St} {g:Nat->AV} {o:Oper} {ss:Sets} {h':Option (List Obj)} {H:List Obj}
 (hg:Less g σ) (hgd : ∀ d,o.dst=some d->g d=σ.get d)
include hT hg hgd
theorem partD_ok {t:TypeId} {td:TD} (ht:T t=some td) {cs:List D} {p:Nat} {i j:Int} {y:D} (hi:i=p) (hj:j=(p:Int)+td.size) (h:partD Ar.std td cs p i j=some y)
  {K:Addr->Option Value} {vs:Array Value} {w:World} (hs:vs.size=cs.length) (hh : ∀ (i:Nat) (hi:i<cs.length),RepD K cs[i] (vs.getD i undef)) (h1 : ∀ v∈vs,v.oneCell'=true) :
  ∃ v,(part t vs p).run P w = .ok v w/\RepD K y v:=by
 unfold part
 simp only [Sem.run_bind,hT.isAgg ht,Result.andThen_ok]
 unfold partD at h
 by_cases hagg:td.isAgg=true
 ·rw [if_pos hagg] at h
  cases h
  simp only [hagg,if_true,Sem.run_bind,hT.size ht,Result.andThen_ok,Sem.run_pure]
  refine ⟨_,rfl,?_⟩
  subst hi hj
  rw [sub_nat]
  exact sub_rep hs hh h1 p td.size
 ·rw [if_neg hagg] at h
  have hp:cs[p]?=some y:=h
  obtain ⟨hlt,rfl⟩:=zp2.1 hp
  simp only [hagg,Bool.false_eq_true,if_false]
  have hget:vs[p]?=some (vs.getD p Go.undef):=by simp [zp5,show p<vs.size by omega]
  exact ⟨vs.getD p Go.undef,by rw [hget];simp,hh p hlt⟩
theorem sa_nilCheck {x:Operand} (hop:o.op = .nilCheck x) {an:Ann} (h:evArr Ar.std T an σ.n g H o=some (some (ss,h'))):StepOk P σ o ss h':=by
 simp only [evArr,hop,zp3] at h
 split at h
 ·rename_i a0 k i j hx
  refine stepOk_pure hgd h (by simp [hop]) (AV.free_place rfl) ?_
  intro G a w R
  obtain ⟨hv,hnh,hi⟩:=eptr_val hg R hx
  exact ⟨_,by simp [execOp,hop,hv],fun d => .eptr _ _ _ _ _ hnh hi⟩
 ·split at h
  ·rename_i A hA
   intro r n m G a w Q next hm R hn
   have hAr:=adr_ok hg R hA
   refine stepOk_pure hgd h (by simp [hop]) (hAr.up_place _) ?_ r n m G a w Q next hm R hn
   intro G a w R
   have hAr:=adr_ok hg R hA
   obtain ⟨b,of,hp⟩:=hAr.pointer
   rw [hp] at hAr
   exact ⟨.pointer (some ⟨b,of+0,none⟩),by simp [execOp,hop,hp],fun d=>hAr.up _ _⟩
  ·cases h
theorem sa_index {t:TypeId} {x i:Operand} (hop:o.op = .index t x i) {an:Ann} (h:evArr Ar.std T an σ.n g H o=some (some (ss,h'))):StepOk P σ o ss h':=by
 simp only [evArr,hop,zp3,idxLo_std,idxHi_std,idxNat_std] at h
 split at h
 ·rename_i sz m e zc cs kz z ht hx hi
  split at h
  ·rename_i te hte
   split at h
   ·rename_i hb
    simp at hb
    obtain ⟨⟨hz0,hz1⟩,hsz⟩:=hb
    unfold putD at h
    split at h
    ·rename_i y hy
     refine stepOk_pure hgd h (by simp [hop]) (AV.free_place rfl) ?_
     intro G a w R
     have h1:=opD_some hg R hx
     have h2:=opD_some hg R hi
     generalize hei:a.eval i=vi at h2
     cases h2
     generalize hex:a.eval x=vx at h1
     cases h1 with | agg _ vs hs hh h1 =>
     obtain ⟨N,rfl⟩:=zp9 hz0
     have key : ∃ v,(part e vs (N*te.size)).run P w = .ok v w/\RepD G.K y v:=by
      unfold partD at hy
      by_cases hagg:te.isAgg=true
      ·rw [if_pos hagg] at hy
       exact partD_ok hT hg hgd hte (p:=N*te.size) (i:=(N:Int)*te.size) (j:=(N:Int)*te.size+te.size) (by simp) (by simp) (by unfold partD;rw [if_pos hagg];exact hy) hs hh h1
      ·rw [if_neg hagg] at hy
       have hs1:te.size=1:=by rcases hsz with h | h;exact absurd h hagg;exact h
       exact partD_ok hT hg hgd hte (p:=N*te.size) (i:=((N*te.size:Nat):Int)) (j:=((N*te.size:Nat):Int)+te.size) rfl rfl (by unfold partD;rw [if_neg hagg,hs1,Nat.mul_one];simpa using hy) hs hh h1
     obtain ⟨v,hv,hr⟩:=key
     refine ⟨v,?_,fun d => .d _ _ _ hr⟩
     have hzm:(N:Int)<(m:Int):=hz1
     simp [execOp,hop,hei,hex,Instr.index,asIntOf,Go.underlying,hT.array ht,hzm,hT.size hte,hv]
     omega
    ·cases h
   ·cases h
  ·cases h
 ·cases h
theorem sa_field {t:TypeId} {x:Operand} {f:Nat} (hop:o.op = .field t x f) {an:Ann} (h:evArr Ar.std T an σ.n g H o=some (some (ss,h'))):StepOk P σ o ss h':=by
 simp only [evArr,hop] at h
 split at h
 ·rename_i d hd
  split at h
  ·simp only [zp3] at h
   split at h
   ·rename_i ft off sz cs hf hx
    obtain ⟨s,fs,z,td,ht,hfs,hft,rfl⟩:=fieldOf_some hf
    obtain ⟨fields,hu,hmap⟩:=hT.struct ht
    have hfield : ∃ fld,fields[f]?=some fld/\fld.type=ft/\fld.offset=off:=by
     rw [<-hmap] at hfs
     simp at hfs
     obtain ⟨fld,h1,h2,h3⟩:=hfs
     exact ⟨fld,h1,h2,h3⟩
    obtain ⟨fld,hfl,rfl,rfl⟩:=hfield
    simp only [hft] at h
    unfold putD at h
    split at h
    ·rename_i y hy
     refine stepOk_pure hgd h (by simp [hop]) (AV.free_place rfl) ?_
     intro G a w R
     have h1:=opD_some hg R hx
     generalize hex:a.eval x=vx at h1
     cases h1 with | agg _ vs hs hh h1 =>
     obtain ⟨v,hv,hr⟩:=partD_ok hT hg hgd hft (p:=fld.offset) rfl (by simp) hy hs hh h1 (w:=w)
     exact ⟨v,by simp [execOp,hop,hex,Instr.field,Go.underlying,hu,hfl,asAgg,hv],fun d => .d _ _ _ hr⟩
    ·cases h
   ·cases h
  ·cases h
 ·cases h
theorem sa_new {d:Nat} (hd:o.dst=some d) (hlt:d<σ.n) (hun:σ.get d = .undef) (hnd : ∀ c,o.op ≠ .defer c) {ds:List D} (h1:(∃ G a w,Rel G σ a w) -> ∀ x∈ds,x.isOne=true)
  (hrun : ∀ G a w,Rel G σ a w -> ∃ (vs:Array Value) (e:TypeId),(execOp a.eval o).run P w = .ok (.value (.pointer (some ⟨w.heap.size,0,none⟩))) (w.alloc (.cells vs e))/\vs.size=ds.length /\
   ∀ (j:Nat) (hj:j<ds.length),RepD G.K ds[j] (vs.getD j Go.undef)/\(vs.getD j Go.undef).oneCell'=true):StepOk P σ o [(d,.ptr σ.heap.length 0)] (some (σ.heap++[.arr 1 ds])):=by
 refine step_newAny hd hlt (by rw [hun];rfl) hnd rfl ?_
 intro G a w R
 obtain ⟨vs,e,hr,hs,hh⟩:=hrun G a w R
 have h1:=h1 ⟨G,a,w,R⟩
 have hfl:D.flat ds=ds:=flat_one h1
 refine ⟨.cells vs e,_,hr,fun _ _ _ e=>by cases e;rfl,fun G' hK hO hβ hnh=>⟨⟨vs,e,by rw [hβ];exact hO,by rw [hβ];exact heap_alloc_new,uniform_one h1,by rw [hfl];omega,fun j hj => ?_,fun j hj => ?_⟩,?_⟩⟩
 ·rw [hfl] at hj;exact (hh j hj).2
 ·have hj':j<ds.length:=by rw [hfl] at hj;exact hj
  have e1:(D.flat ds)[j]=ds[j]:=by simp only [hfl]
  rw [e1,hK];exact (hh j hj').1
 ·have:=RepV.ptr (G:=G') (w:=w.alloc (.cells vs e)) (.s d) σ.heap.length 0 (by omega)
  rwa [hβ] at this
theorem sa_alloc {t:TypeId} (hop:o.op = .alloc t) {an:Ann} (hHe:heapy an g o=true->H=σ.heap) (h:evArr Ar.std T an σ.n g H o=some (some (ss,h'))):StepOk P σ o ss h':=by
 simp only [evArr,hop] at h
 split at h
 ·rename_i d hd
  split at h
  ·rename_i harr
   have hHσ:H=σ.heap:=hHe (by simp [heapy,hop,hd];right;simpa using harr)
   simp only [zp3] at h
   split at h
   ·rename_i td ht
    split at h
    ·rename_i hc
     simp at hc
     have hun:σ.get d = .undef:=by rw [<-hgd d hd];exact AV.undef_of hc.2
     rw [Option.map_eq_some_iff] at h
     obtain ⟨ds,hds,h⟩:=h
     simp at h
     obtain ⟨rfl,rfl⟩:=h
     rw [hHσ]
     obtain ⟨i,dd,hi,hdd,hsz,_,huok,z,hz,hzs,hzl,hzc⟩:=hT.info ht
     have each:ds.length=td.zero.length /\ ∀ (j:Nat) (hj:j<ds.length),(∀ (G:Gh) (w:World),RepD G.K ds[j] (z.cells.getD j Go.undef))/\(z.cells.getD j Go.undef).oneCell'=true:=by
      unfold arrZ at hds
      split at hds
      ·rename_i q hq
       have hr:=zrep_ok hq
       cases hds
       refine ⟨by simp [Ar.std,hzl],fun j hj => ?_⟩
       have hj':j<td.zero.length:=by simpa [Ar.std,hzl] using hj
       have h1:=zeroCell_ok (hzc j hj')
       refine ⟨fun G w => ?_,h1.2.2⟩
       have h2:=h1.1 G w .no
       have e1:td.zero[j] = .d q:=by
        have h3:td.zero[j]∈td.zero:=zp6 _
        generalize td.zero[j]=c at h3
        rw [hr] at h3
        exact (List.mem_replicate.1 h3).2
       rw [e1] at h2
       simp only [Ar.std,List.getElem_replicate]
       cases h2;assumption
      ·obtain ⟨q1,q2⟩:=dataOf_rep hds
       refine ⟨q1,fun j hj => ?_⟩
       have h1:=zeroCell_ok (hzc j (by omega))
       exact ⟨fun G w=>q2 j hj (by omega) (h1.1 G w .no),h1.2.2⟩
     refine sa_new hT hg hgd hd hc.1 hun (by simp [hop]) (fun ⟨G,_,w,_⟩ x hx => ?_) (fun G a w R=>⟨z.cells,t,by simp [execOp,hop,Instr.alloc,zeroValue,typeInfo,hi,hz,newVar,newRow],by omega,fun j hj=>⟨(each.2 j hj).1 G w,(each.2 j hj).2⟩⟩)
     obtain ⟨j,hj,rfl⟩:=List.mem_iff_getElem.1 hx
     exact isOne_of_rep ((each.2 j hj).1 G w) (each.2 j hj).2
    ·cases h
   ·cases h
  ·cases h
 ·cases h
theorem sa_box {t:TypeId} {x:Operand} (hop:o.op = .box t x) {an:Ann} (hHe:heapy an g o=true->H=σ.heap) (h:evArr Ar.std T an σ.n g H o=some (some (ss,h'))):StepOk P σ o ss h':=by
 simp only [evArr,hop] at h
 split at h
 ·rename_i d hd
  split at h
  ·rename_i harr
   have hHσ:H=σ.heap:=hHe (by simp [heapy,hop,hd];right;simpa using harr)
   simp only [zp3] at h
   split at h
   ·rename_i td cs ht hx
    split at h
    ·rename_i hc
     simp at hc
     obtain ⟨⟨hlt,hu⟩,hlen⟩:=hc
     have hun:σ.get d = .undef:=by rw [<-hgd d hd];exact AV.undef_of hu
     simp at h
     obtain ⟨rfl,rfl⟩:=h
     rw [hHσ]
     have each : ∀ G a w,Rel G σ a w -> ∃ vs:Array Value,a.eval x = .agg vs/\vs.size=cs.length /\ ∀ (j:Nat) (hj:j<cs.length),RepD G.K cs[j] (vs.getD j Go.undef)/\(vs.getD j Go.undef).oneCell'=true:=by
      intro G a w R
      have h1:=opD_some hg R hx
      generalize hex:a.eval x=vx at h1
      cases h1 with | agg _ vs hs hh h1 =>
      exact ⟨vs,rfl,hs,fun j hj=>⟨hh j hj,h1 _ (by simp [Array.getD,hs,hj])⟩⟩
     refine sa_new hT hg hgd hd hlt hun (by simp [hop]) (fun ⟨G,a,w,R⟩ x hx => ?_) (fun G a w R => ?_)
     ·obtain ⟨vs,_,_,hh⟩:=each G a w R
      obtain ⟨j,hj,rfl⟩:=List.mem_iff_getElem.1 hx
      exact isOne_of_rep (hh j hj).1 (hh j hj).2
     ·obtain ⟨vs,hv,hs,hh⟩:=each G a w R
      exact ⟨vs,t,by simp [execOp,hop,Instr.box,newVar,newRow,hv,Value.cells],hs,hh⟩
    ·cases h
   ·cases h
  ·cases h
 ·cases h
end
theorem appendNew_core {P:Program} {T:Types} (hT:TOk P T) {σ:St} {g:Nat->AV} {o:Oper} (hg:Less g σ) (hgd : ∀ d,o.dst=some d->g d=σ.get d) {s d k1:Nat} {y:Operand} {t u:TypeId} {l ys:List D}
  (hop:o.op = .call { callee := .builtin .append,args := #[.tmp s,y],argTypes := #[t,u] }) (ht:elemSize T t=some k1) (hu':elemSize T u=some k1) (hy:listOf T g u y=some (k1,ys)) (hdst:o.dst=some d)
  (hs:σ.get s = .lim k1 l) (hne:ys≠[]) (_:0<k1) (hlt:d<σ.n) (hbx:(g d).isBox=false) (hfits:(l.length:Int)+ys.length<4294967296) :
  StepOk P σ o [(d,.mref σ.heap.length k1 0 ((l.length:Int)+ys.length))] (some (σ.heap++[.arr k1 (l++ys)])):=by
 have hnd : ∀ c,o.op ≠ .defer c:=by simp [hop]
 obtain ⟨sz,e,zz,td,hTt,hTe,hks⟩:=elemSize_some ht
 obtain ⟨sz1,e1,zz1,td1,hTt1,hTe1,hks1⟩:=elemSize_some hu'
 obtain ⟨ie,dd,hie,hdd,hsz,hbytes,huok,z0,hz,hzs,hzl,hzc⟩:=hT.info hTe
 refine step_newAnyD hdst hlt (by rw [<-hgd d hdst];exact hbx) hnd rfl ?_
 intro G a w R
 have hys:=listOf_ok hg hy R
 have hrep:=R.slots s
 have hev:a.eval (.tmp s)=a.tmps.getD s Go.undef:=rfl
 generalize hsv:a.tmps.getD s Go.undef=sv at hrep
 rw [hs] at hrep
 cases hrep with | lim _ _ _ _ hr hlim =>
 have hyl : ∃ b cap,a.eval y = .slice b ys.length cap:=by
  rcases hys.slice with ⟨rfl,oa,hv⟩ | ⟨b,off,cap,hv⟩
  ·exact ⟨_,_,hv⟩
  ·exact ⟨_,_,hv⟩
 obtain ⟨by',cy,hyv⟩:=hyl
 have hsl : ∃ b cap,sv = .slice b l.length cap:=by
  rcases hr.slice with ⟨rfl,oa,hv⟩ | ⟨b,off,cap,hv⟩
  ·exact ⟨_,_,hv⟩
  ·exact ⟨_,_,hv⟩
 obtain ⟨bs,cs,rfl⟩:=hsl
 have hcs:l.length=cs:=hlim _ _ _ rfl
 have hyp:0<ys.length:=List.length_pos_iff.2 hne
 have hcap : ¬ l.length+ys.length<=cs:=by omega
 have hbig : ¬ Builtin.nextslicecap (l.length+ys.length) cs*ie.bytes>2 ^ 48:=by
  have h1:=nextslicecap_le (need:=l.length+ys.length) (cap:=cs) (by omega)
  have h2:Builtin.nextslicecap (l.length+ys.length) cs*ie.bytes<=(2*(l.length+ys.length)+200)*4096:=Nat.mul_le_mul h1 hbytes
  omega
 let qn:=Question.appendCap (l.length+ys.length) cs e
 have hforced:qn.forced=false:=rfl
 let nc:=qn.cut (w.tape w.drawn qn)
 let wd:=w.drew
 have hwd:wd.heap=w.heap:=rfl
 have hnc:l.length+ys.length<=nc:=by simp [nc,qn,Question.cut]
 let rest:=Builtin.zeroCells z0.cells (nc-(l.length+ys.length))
 have hkd : ∀ x v,G.K x=some v->wd.cell? x=some v:=by
  intro x v hx
  have:=R.h.kept x v hx
  unfold World.cell? at *
  rwa [hwd]
 obtain ⟨arrY,f1,f2,f3,f4⟩:=firstCells_run (P:=P) hkd hys
 obtain ⟨arrS,s1,s2,s3,s4⟩:=firstCells_run (P:=P) hkd hr
 rw [hyv] at f1
 have hrun:(execOp a.eval o).run P w = .ok (.value (.slice (some ⟨w.heap.size,0,none⟩) (l.length+ys.length) nc)) (wd.alloc (.cells (arrS++arrY++rest) e)):=by
  have key:(Builtin.append_ #[t,u] o.type #[.slice bs l.length cs,a.eval y]).run P w = .ok (.slice (some ⟨w.heap.size,0,none⟩) (l.length+ys.length) nc) (wd.alloc (.cells (arrS++arrY++rest) e)):=by
   unfold Builtin.append_
   simp [Go.underlying,hT.slice hTt,hT.slice hTt1,hT.size hTe,Builtin.lenOf,hyv,hcap,hks,typeInfo,hie,hbig]
   have hmax' : ¬ ((9223372036854775807:Int)<(l.length:Int)+(ys.length:Int)/\ie.bytes=0):=by
    intro hh;omega
   rw [if_neg hmax']
   have hforced':(Question.appendCap (l.length+ys.length) cs e).forced=false:=rfl
   simp only [hforced',Bool.false_eq_true,if_false]
   rw [show (Builtin.firstCells k1 l.length (Value.slice bs l.length cs)).run P w.drew=_ from s1]
   simp only [Result.andThen_ok]
   rw [show (Builtin.firstCells k1 ys.length (Value.slice by' ys.length cy)).run P w.drew=_ from f1]
   simp only [Result.andThen_ok,zeroValue,typeInfo,Sem.run_bind,run_program,hie,hz,Sem.run_pure,newRow,run_newObj]
   simp [rest,nc,qn,wd]
   rfl
  simp only [execOp,hop,resolve,invoke,Go.builtin,Sem.run_bind,Sem.run_pure,Result.andThen_ok]
  simp [hev,hsv,key]
 have hfl:=flat_length s3
 have hfy:=flat_length f3
 have huni:uniform k1 (l++ys):=fun x hx=>by rcases List.mem_append.1 hx with hx | hx;exact s3 x hx;exact f3 x hx
 have each : ∀ (q:Nat) (hq:q<(D.flat (l++ys)).length),RepD G.K (D.flat (l++ys))[q] ((arrS++arrY++rest).getD q Go.undef)/\((arrS++arrY++rest).getD q Go.undef).oneCell'=true:=by
  intro q hq
  simp only [flat_append] at hq ⊢
  have e0:(arrS++arrY++rest).getD q Go.undef=if q<arrS.size then arrS.getD q Go.undef else arrY.getD (q-arrS.size) Go.undef:=by
   simp only [List.length_append] at hq
   simp only [zp5]
   split
   ·rename_i hq1
    rw [Array.getElem?_append_left (by simp;omega),Array.getElem?_append_left hq1]
   ·rename_i hq1
    rw [Array.getElem?_append_left (by simp;omega),Array.getElem?_append_right (by omega)]
  rw [e0]
  by_cases hq1:q<arrS.size
  ·rw [if_pos hq1,List.getElem_append_left (by omega)]
   exact s4 q (by omega)
  ·rw [if_neg hq1,List.getElem_append_right (by omega)]
   have:=f4 (q-arrS.size) (by simp at hq;omega)
   simpa [s2] using this
 refine ⟨wd,.cells (arrS++arrY++rest) e (0,0),.slice (some ⟨w.heap.size,0,none⟩) (l.length+ys.length) nc,⟨hwd,rfl,rfl,rfl,Nat.le_succ _⟩,hrun,fun _ _ _ e=>by cases e;rfl,fun G' hK hO hβ hnh=>⟨?_,?_⟩⟩
 ·refine ⟨_,e,by rw [hβ];exact hO,by rw [hβ];exact heap_alloc_new (w:=wd),huni,?_,fun q hq=>(each q hq).2,fun q hq=>by rw [hK];exact (each q hq).1⟩
  simp only [flat_append,List.length_append,Array.size_append,s2,f2];omega
 ·have:=RepV.mref (G:=G') (w:=wd.alloc (.cells (arrS++arrY++rest) e)) (.s d) σ.heap.length k1 0 ((l.length:Int)+ys.length) w.heap.size 0 nc (by omega) (Int.le_refl _) (by omega) (by simp;omega) (fun _=>⟨hβ.symm,by simp⟩)
  rw [show ((l.length:Int)+ys.length).toNat=l.length+ys.length from by omega] at this
  simpa using this
theorem sa_append {P:Program} {T:Types} (hT:TOk P T) {σ:St} {g:Nat->AV} {o:Oper} {ss:Sets} {h':Option (List Obj)} {H:List Obj} {an:Ann} (hg:Less g σ) (hgd : ∀ d,o.dst=some d->g d=σ.get d)
  {args:Array Operand} {ts:Array TypeId} (hop:o.op = .call { callee := .builtin .append,args:=args,argTypes:=ts }) (hHe:heapy an g o=true->H=σ.heap) (h:evArr Ar.std T an σ.n g H o=some (some (ss,h'))):StepOk P σ o ss h':=by
 simp only [evArr,hop] at h
 split at h
 ·rename_i d hdst
  split at h
  ·rename_i hth
   have hHσ:H=σ.heap:=hHe (by simp [heapy,hop,hdst];right;simpa using hth)
   simp only [zp3] at h
   split at h
   ·rename_i s y t u hargs hts
    obtain rfl:args = #[.tmp s,y]:=by cases args;simp_all
    obtain rfl:ts = #[t,u]:=by cases ts;simp_all
    split at h
    ·rename_i k' l k k1 k2 ys hgs ht hu hy
     split at h
     ·rename_i hc
      simp [Ar.std] at hc h
      obtain ⟨⟨⟨⟨⟨⟨⟨⟨hlen,rfl⟩,rfl⟩,rfl⟩,hpos⟩,hlt⟩,hbx⟩,hsd⟩,hfits⟩:=hc
      obtain ⟨rfl,rfl⟩:=h
      rw [hHσ]
      exact appendNew_core hT hg hgd hop ht hu hy hdst (hg.eq hgs (by simp)) (by rintro rfl;simp at hlen) hpos hlt hbx hfits
     ·cases h
    ·cases h
   ·cases h
  ·cases h
 ·cases h
theorem evArr_ok {P:Program} {T:Types} (hT:TOk P T) {σ:St} {g:Nat->AV} {o:Oper} {ss:Sets} {h':Option (List Obj)} {H:List Obj} {an:Ann}
  (hg:Less g σ) (hgd : ∀ d,o.dst=some d->g d=σ.get d) (hH : ∀ (i:Nat) (ob:Obj),H[i]?=some ob->σ.heap[i]?=some ob) (hHe:heapy an g o=true->H=σ.heap)
  (h:evArr Ar.std T an σ.n g H o=some (some (ss,h'))):StepOk P σ o ss h':=by
 cases hop:o.op with
 | nilCheck x=>exact sa_nilCheck hT hg hgd hop h
 | index t x i=>exact sa_index hT hg hgd hop h
 | field t x f=>exact sa_field hT hg hgd hop h
 | alloc t=>exact sa_alloc hT hg hgd hop hHe h
 | box t x=>exact sa_box hT hg hgd hop hHe h
 | call c =>
   obtain ⟨callee,args,ts⟩:=c
   cases callee with
   | builtin b =>
     cases b with
     | append=>exact sa_append hT hg hgd hop hHe h
     | _=>simp [evArr,hop] at h
   | _=>simp [evArr,hop] at h
 | _=>simp [evArr,hop] at h
theorem tailOf_some {v:AV} {k:Nat} {l:List D} (h:v.tailOf=some (k,l)) : ∃ z,v = .ownZ z k l:=by
 cases v <;> simp [AV.tailOf] at h
 ·obtain ⟨rfl,rfl⟩:=h;exact ⟨true,rfl⟩
 ·obtain ⟨rfl,rfl⟩:=h;exact ⟨false,rfl⟩
theorem tailOnly_some {v:AV} {k:Nat} {l:List D} (h:v.tailOnly=some (k,l)):v = .ownZ false k l:=by
 cases v <;> simp [AV.tailOnly] at h
 obtain ⟨rfl,rfl⟩:=h;rfl
theorem TailZ.move {z:Bool} {G:Gh} {w:World} {ℓ ℓ':Loc} {k:Nat} {v:Value} (h:TailZ z G w ℓ k v):TailZ z (G.move ℓ ℓ') w ℓ' k v:=by
 intro a n cap hv hn
 obtain ⟨f,c,e,h1,h2⟩:=h a n cap hv hn
 exact ⟨f,c,e,by simp [Gh.move,h1],h2⟩
theorem step_rest {P:Program} {σ:St} {g:Nat->AV} {o:Oper} (hgd : ∀ d,o.dst=some d->g d=σ.get d) {s d k:Nat} {l l':List D} {z:Bool}
  (hs:σ.get s = .ownZ z k l) (hd:o.dst=some d) (hlt:d<σ.n) (hbx:(g d).isBox=false) (hsd:s≠d) (hnd : ∀ c,o.op ≠ .defer c)
  (hrun : ∀ G a w,Rel G σ a w -> ∃ v,(execOp a.eval o).run P w = .ok (.value v) w/\RepD G.K (.list k l') v/\(TailZ z G w (.s s) k (a.tmps.getD s Go.undef)->TailZ false G w (.s s) k v)) :
  StepOk P σ o [(s,.d (.list k l)),(d,.tail k l')] none:=by
 intro r n m G a w Q next hm R hn
 obtain ⟨v,hr,hrep',ht'⟩:=hrun G a w R
 have hrep:=R.slots s
 rw [hs,ownZ_rep] at hrep
 obtain ⟨hrl,ht⟩:=hrep
 have htv:=ht' ht
 refine wp_value hnd hr (hn (G.move (.s s) (.s d)) _ _ ?_ (Ext.move m G w _ _))
 rw [hd]
 have hd':d<a.tmps.size:=by rw [R.size];exact hlt
 have hdb:(σ.get d).isBox=false:=by rw [<-hgd d hd];exact hbx
 have hpr:=G.move_pres w (.s s) (.s d)
 refine ⟨R.h.move _ _ (by simp [Loc.root]) ?_,by simpa [Act.put,St.upd] using R.size,?_,?_,R.df.move (by simp)⟩
 ·intro i ob hob
  exact (R.h.objs i ob hob).pres R.h.sane (by rw [<-R.h.nh];exact (zp2.1 hob).1) hpr (by simp) (by simp)
 ·intro t
  simp only [Act.put,getD_set _ _ _ _ hd',St.upd,St.get,esets,List.foldl_cons,List.foldl_nil,eget_eset]
  split
  ·rename_i e;subst e
   exact .tail _ _ _ _ hrep' htv.move
  ·split
   ·rename_i e;subst e;exact .d _ _ _ hrl
   ·rename_i e1 e2
    exact (R.slots t).pres R.h.sane hpr (by simp;exact fun e=>e2 e.symm) (fun _ _ _=>rfl) (fun _ _ _=>⟨rfl,by simp⟩)
 ·intro t r' off ht
  simp only [St.upd,St.get,esets,List.foldl_cons,List.foldl_nil,eget_eset] at ht ⊢
  split at ht
  ·cases ht
  ·split at ht
   ·cases ht
   ·obtain ⟨cs,hcs⟩:=R.places t r' off ht
    refine ⟨cs,?_⟩
    split
    ·rename_i e;subst e;rw [show σ.get d=_ from hcs] at hdb;simp [AV.isBox] at hdb
    ·split
     ·rename_i e;subst e;rw [hcs] at hs;exact absurd hs (by cases z <;> simp [AV.ownZ])
     ·exact hcs
theorem evTail_ok {P:Program} {T:Types} (hT:TOk P T) {σ:St} {g:Nat->AV} {o:Oper} {ss:Sets} {h':Option (List Obj)} {an:Ann}
  (hg:Less g σ) (hgd : ∀ d,o.dst=some d->g d=σ.get d)
  (h:evTail Ar.std T an σ.n g o=some (some (ss,h'))):StepOk P σ o ss h':=by
 unfold evTail at h
 split at h
 case h_2=>cases h
 rename_i d hd
 split at h
 case isFalse=>cases h
 have mv : ∀ s,(o.op = .move (.tmp s)\/o.op = .assign (.tmp s))->(match (g s).tailOnly with
    | some (k,l)=>some <| if decide (d<σ.n) && !(g d).isBox&&decide (s≠d) then some ([(s,AV.d (.list k l)),(d,AV.tail k l)],none) else none
    | none=>none)=some (some (ss,h'))->StepOk P σ o ss h':=by
  intro s hop h
  split at h
  ·rename_i k l hgs
   simp only [zp3] at h
   split at h
   ·rename_i hc
    simp at hc
    simp at h
    obtain ⟨rfl,rfl⟩:=h
    have hs:σ.get s = .ownZ false k l:=by
     rw [<-tailOnly_some hgs]
     exact hg.eq rfl (by rw [tailOnly_some hgs];simp [AV.ownZ])
    refine step_rest (z:=false) hgd hs hd hc.1.1 hc.1.2 hc.2 (by rcases hop with hop | hop <;> simp [hop]) ?_
    intro G a w R
    have hrep:=R.slots s
    rw [hs,ownZ_rep] at hrep
    exact ⟨a.eval (.tmp s),by rcases hop with hop | hop <;> simp [execOp,hop],hrep.1,fun h=>h⟩
   ·cases h
  ·cases h
 split at h
 ·rename_i s hop;exact mv s (.inl hop) h
 ·rename_i s hop;exact mv s (.inr hop) h
 ·rename_i t s lo hop
  split at h
  ·rename_i k l es lw hgs hes hlo
   simp only [zp3] at h
   split at h
   ·rename_i hc
    simp [Ar.std] at hc
    simp at h
    obtain ⟨rfl,rfl⟩:=h
    obtain ⟨⟨⟨⟨⟨rfl,h0⟩,h1⟩,hlt⟩,hbx⟩,hsd⟩:=hc
    obtain ⟨z,hz⟩:=tailOf_some hgs
    have hs:σ.get s = .ownZ z k l:=by
     rw [<-hz]
     exact hg.eq rfl (by rw [hz];cases z <;> simp [AV.ownZ])
    refine step_rest (z:=z) hgd hs hd hlt hbx hsd (by simp [hop]) ?_
    intro G a w R
    have hrep:=R.slots s
    rw [hs,ownZ_rep] at hrep
    have hr:=hrep.1
    obtain ⟨sz,e,zz,td,ht,hte,rfl⟩:=elemSize_some hes
    obtain ⟨nl,rfl⟩:=zp9 h0
    have hnl:nl<=l.length:=by omega
    obtain ⟨kk,hev⟩:=bound_some hg hlo R
    have key : ∀ (b:Option Addr) (cap:Nat),a.eval (.tmp s) = .slice b l.length cap->l.length<=cap ->
      (execOp a.eval o).run P w = .ok (.value (.slice (if cap=nl then b else b.map (·.add (nl*td.size))) (l.length-nl) (cap-nl))) w:=by
     intro b cap hx h1
     have hrun:=run_sliceBounds (P:=P) (w:=w) (len:=l.length) (cap:=cap) (nl:=nl) (nh:=l.length) (m:=cap) (low:=(some lo).map a.eval) (high:=none) (max:=none)
      (.inr ⟨kk,by simp [hev]⟩) (.inl ⟨rfl,rfl⟩) (.inl ⟨rfl,rfl⟩) hnl h1 (Nat.le_refl _)
     simp at hrun
     simp [execOp,hop,Instr.sliceAt,Instr.slice,Go.underlying,hT.slice ht,hx,hrun,hT.size hte]
    have hsub:Ar.std.sub l (nl:Int) (l.length:Int)=(l.drop nl).take (l.length-nl):=by
     show (l.drop (nl:Int).toNat).take ((l.length:Int).toNat-(nl:Int).toNat)=_
     simp
    show ∃ v,(execOp a.eval o).run P w = .ok (.value v) w/\RepD G.K (.list td.size (Ar.std.sub l (nl:Int) (l.length:Int))) v/\_
    rw [hsub]
    have hev':a.eval (.tmp s)=a.tmps.getD s Go.undef:=rfl
    rcases hr.slice with ⟨rfl,oa,hv⟩ | ⟨b,off,cap,hv⟩
    ·have e1:nl=0:=by simpa using hnl
     subst e1
     refine ⟨_,key oa 0 (by rw [hev',hv];rfl) (Nat.le_refl _),by simpa using RepD.zero _ td.size oa,fun _ a n cap e hc => ?_⟩
     simp at e;omega
    ·rw [hv] at hr
     have hcap:l.length<=cap:=by
      generalize hv':Value.slice (some ⟨b,off,none⟩) l.length cap=v at hr
      cases hr with
      | nil=>simp at hv'
      | none0=>simp
      | list k l b' off' cap' vs hu hc=>simp at hv';omega
     refine ⟨_,key _ cap (by rw [hev',hv]) hcap,?_,fun hT1 => ?_⟩
     ·by_cases hm:cap=nl
      ·have e1:l.length-nl=0:=by omega
       rw [if_pos hm,e1,show cap-nl=0 by omega]
       simpa using RepD.empty G.K td.size b off 0
      ·simp only [if_neg hm,Option.map_some,Addr.add_none]
       exact hr.sub hnl (Nat.le_refl _) (by omega)
     ·intro a' n' cap' e' hc'
      simp only [Value.slice.injEq] at e'
      obtain ⟨e1,rfl,rfl⟩:=e'
      rw [if_neg (by omega)] at e1
      simp only [Option.map_some,Addr.add_none,zp3] at e1
      subst e1
      obtain ⟨f,c,e3,q1,q2,q3,q4,_⟩:=hT1 _ _ _ hv (by omega)
      dsimp only at q1 q2 q3 q4 ⊢
      have m1:nl*td.size+(l.length-nl)*td.size=l.length*td.size:=by rw [<-Nat.add_mul];congr 1;omega
      have m2:nl*td.size+(cap-nl)*td.size=cap*td.size:=by rw [<-Nat.add_mul];congr 1;omega
      exact ⟨f,c,e3,q1,by omega,q3,by omega,fun h=>by cases h⟩
   ·cases h
  ·cases h
 ·rename_i args ts hop
  split at h
  ·rename_i s y t u hargs hts
   obtain rfl:args = #[.tmp s,y]:=by cases args;simp_all
   obtain rfl:ts = #[t,u]:=by cases ts;simp_all
   split at h
   ·rename_i k' l k k1 k2 ys hgs ht hu hy
    simp only [zp3] at h
    split at h
    ·rename_i hc
     simp [Ar.std] at hc
     simp [Ar.std] at h
     obtain ⟨rfl,rfl⟩:=h
     obtain ⟨⟨⟨⟨⟨⟨⟨⟨hcons,rfl⟩,rfl⟩,rfl⟩,hpos⟩,hlt⟩,hbx⟩,hsd⟩,hfits⟩:=hc
     have hs:=hg.eq (tailOnly_some hgs) (by simp [AV.ownZ])
     exact append_core (z:=false) hT hg hgd hop ht hu (fun R=>listOf_src hg hy R) hd (.inl hs) (fun _=>by rintro rfl;cases hcons) hpos hlt hbx hsd hfits
    ·cases h
   ·cases h
  ·cases h
 ·cases h
theorem evTail_none {A:Ar} {T:Types} {an:Ann} {n:Nat} {g:Nat->AV} {H':List Obj} {o:Oper} {ss:Sets} (h:evTail A T an n g o=some (some (ss,some H'))):False:=by
 unfold evTail at h
 repeat' split at h
 all_goals first
  | (cases h;done)
  | (simp at h;done)
theorem evArr_len {A:Ar} {T:Types} {an:Ann} {n:Nat} {g:Nat->AV} {H H':List Obj} {o:Oper} {ss:Sets} (h:evArr A T an n g H o=some (some (ss,some H'))):H.length<=H'.length:=by
 have hput0 : ∀ {dst:Option Tmp} {v:AV},put n g dst v≠some (ss,some H'):=by
  intro dst v e
  have:=(put_some e).1;cases this
 have hput : ∀ {dst:Option Tmp} {v:Option D},putD n g dst v≠some (ss,some H'):=by
  intro dst v e
  unfold putD at e
  split at e
  ·have:=(put_some e).1;cases this
  ·cases e
 cases hop:o.op <;> simp only [evArr,hop] at h
 all_goals (repeat' split at h)
 all_goals first
  | (cases h;done)
  | (simp only [zp3] at h;exact absurd h hput)
  | (simp only [zp3] at h;exact absurd h hput0)
  | (simp at h;done)
  | (simp at h;rw [<-h.2];simp;done)
  | (simp at h;obtain ⟨_,_,_,rfl⟩:=h;simp;done)
end Go.Am
