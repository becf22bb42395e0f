/- Own text: AmRun. -/
import Derived.Test.YtlljehkmemajkaaAmVar
import Derived.TacticsIn
import Derived.RangeFuncLeaves
set_option linter.unusedSimpArgs false
set_option linter.unusedSectionVars false
set_option linter.unusedVariables false
namespace Go.Am
open Go
theorem run_sliceBoundsA {P:Program} {w:World} {len nl nh:Nat} {low high:Option Value} (hlo:(low=none/\nl=0) \/ ∃ k,low=some (.int k nl))
  (hhi:(high=none/\nh=len) \/ ∃ k,high=some (.int k nh)) (h1:nl<=nh) (h2:nh<=len):(Instr.sliceBounds false len len low high none).run P w = .ok (nl,nh,len) w:=by
 have c1:=Nat.not_lt.2 h1
 have c2:=Nat.not_lt.2 h2
 rcases hhi with ⟨rfl,rfl⟩ | ⟨kh,rfl⟩ <;> rcases hlo with ⟨rfl,rfl⟩ | ⟨kl,rfl⟩ <;> simp [Instr.sliceBounds,Instr.sliceBound,asIntOf,h1,h2,c1,c2]
theorem Rel.unlimS {G:Gh} {σ:St} {a:Act} {w:World} (R:Rel G σ a w) {s k:Nat} (hs:σ.get s = .lim k []):Rel G (σ.upd [(s,.own k [])] none) a w:=by
 have hrep:=R.slots s
 have hr:RepV G w (.s s) (.own k []) (a.tmps.getD s Go.undef):=by
  rw [hs] at hrep
  generalize hv:a.tmps.getD s Go.undef=v at hrep
  cases hrep with | lim _ _ _ _ h ht =>
  refine .own _ _ _ _ h fun a n cap e hc => ?_
  have:=ht _ _ _ e
  rcases h.slice with ⟨_,oa,hv⟩ | ⟨b,off,cap',hv⟩
  ·rw [hv] at e;simp at e;omega
  ·rw [hv] at e;simp at e;omega
 refine ⟨R.h,by simpa [St.upd] using R.size,?_,?_,R.df⟩
 ·intro t
  simp only [St.upd,St.get,esets,List.foldl_cons,List.foldl_nil,eget_eset]
  split
  ·rename_i e;subst e;exact hr
  ·exact R.slots t
 ·intro t r' off ht
  simp only [St.upd,St.get,esets,List.foldl_cons,List.foldl_nil,eget_eset] at ht ⊢
  split at ht
  ·cases ht
  ·obtain ⟨cs,hcs⟩:=R.places t r' off ht
   refine ⟨cs,?_⟩
   split
   ·rename_i e;subst e;rw [hcs] at hs;cases hs
   ·exact hcs
section
variable {P:Program} {T:Types} (hT:TOk P T) {σ:St} {g:Nat->AV} {o:Oper} {ss:Sets} {h':Option (List Obj)} {H:List Obj} {an:Ann}
 (hg:Less g σ) (hgd : ∀ d,o.dst=some d->g d=σ.get d)
include hT hg hgd
theorem sm_index {t:TypeId} {s:Nat} {x:Operand} (hop:o.op = .indexAddr t (.tmp s) x) {a0 k:Nat} {lo ln:Int} (hs:g s = .mref a0 k lo ln) {sz e:Nat} {zc:List AV} {td:TD} {kz:IntKind} {z:Int}
  (ht:T t=some { size:=sz,u := .slice e,zero:=zc }) (hte:T e=some td) (hi:opv T g 0 x=some (.d (.int kz z))) (hz0:0<=z) (hz1:z<ln) (hk:k=td.size) (h:put σ.n g o.dst (.eptr a0 1 ((lo+z)*(k:Int)) 0)=some (ss,h')):StepOk P σ o ss h':=by
 subst hk
 refine stepOk_pure hgd h (by simp [hop]) (AV.free_place rfl) ?_
 intro G a w R
 have h1:=(opv_ok hg R hi .no).1
 cases h1 with | d _ _ _ h1 =>
 generalize hei:a.eval x=vi at h1
 cases h1
 obtain ⟨b,off,cap,hv,hnh,hlo,hn,hcap,hbo⟩:=mref_val hg R (x := .tmp s) hs
 obtain ⟨rfl,rfl⟩:=hbo (by omega)
 have hzz:z<(ln.toNat:Int):=by omega
 have hmx : ¬ max ln 0<=z:=by omega
 refine ⟨.pointer (some ⟨G.β (.o a0),lo.toNat*td.size+z.toNat*td.size,none⟩),?_,fun d => ?_⟩
 ·simp [execOp,hop,hv,hei,Instr.indexAt,asIntOf,Go.underlying,hT.slice ht,hz0,hzz,hmx,hT.size hte,Addr.add_none]
 ·obtain ⟨L,rfl⟩:=zp9 hlo
  obtain ⟨Z,rfl⟩:=zp9 hz0
  have e1:(((L:Nat):Int)+((Z:Nat):Int))*((td.size:Nat):Int)=(((L+Z)*td.size:Nat):Int):=by rw [Int.natCast_mul,Int.natCast_add]
  have:=RepV.eptr (G:=G) (w:=w) (.s d) a0 1 ((((L:Nat):Int)+((Z:Nat):Int))*((td.size:Nat):Int)) 0 hnh (by rw [e1];exact Int.natCast_nonneg _)
  have e:((((L:Nat):Int)+((Z:Nat):Int))*((td.size:Nat):Int)).toNat*1+0=((L:Nat):Int).toNat*td.size+((Z:Nat):Int).toNat*td.size:=by
   rw [e1];simp only [Int.toNat_natCast,Nat.mul_one,Nat.add_zero,Nat.add_mul]
  rw [e] at this
  exact this
theorem cellBase_val {G:Gh} {a:Act} {w:World} (R:Rel G σ a w) {s:Nat} {lo hi:Option Operand} {a0 j:Nat} {i:Int} (h:cellBase (g s) lo hi=some (a0,i,j)) :
  a.eval (.tmp s) = .pointer (some ⟨G.β (.o a0),(i+(j:Int)).toNat,none⟩)/\a0<G.nh:=by
 have:=hg.rep R s
 generalize hv:a.tmps.getD s Go.undef=v at this
 have hev:a.eval (.tmp s)=v:=hv
 unfold cellBase at h
 split at h
 ·rename_i a1 i1 j1 hc
  cases h
  rw [hc] at this
  cases this with | eptr _ _ _ _ _ h1 h2 =>
  rw [hev]
  refine ⟨?_,h1⟩
  congr 3;omega
 ·rename_i a1 off hc
  split at h
  ·cases h
  ·cases h
   rw [hc] at this
   cases this with | ptr _ _ _ h1 =>
   rw [hev]
   refine ⟨?_,h1⟩
   congr 3;omega
 ·cases h
theorem sm_slice {t:TypeId} {s:Nat} {lo hi:Option Operand} (hop:o.op = .slice t (.tmp s) lo hi none) {a0 j:Nat} {i:Int} (hb:cellBase (g s) lo hi=some (a0,i,j)) {sz m e:Nat} {z:List AV} {td:TD}
  (ht:T t=some { size:=sz,u := .array m e,zero:=z }) (hte:T e=some td) {zh zl q:Int} (hbh:bound g T (Int.ofNat m) hi=some zh) (hbl:bound g T 0 lo=some zl) (hz0:0<=zl) (hz1:zl<=zh) (hz2:zh<=Int.ofNat m)
  (hp:0<=i+(j:Int)) (hq0:0<=q) (hq:q*(td.size:Int)=i+(j:Int)) (h:put σ.n g o.dst (.mref a0 td.size (q+zl) (zh-zl))=some (ss,h')):StepOk P σ o ss h':=by
 refine stepOk_pure hgd h (by simp [hop]) (AV.free_place rfl) ?_
 intro G a w R
 obtain ⟨hv,hnh⟩:=cellBase_val hT hg hgd R hb
 obtain ⟨nl,rfl⟩:=zp9 hz0
 obtain ⟨nh,rfl⟩:=zp9 (Int.le_trans hz0 hz1)
 obtain ⟨Q,rfl⟩:=zp9 hq0
 have hbl':(lo.map a.eval=none/\nl=0) \/ ∃ k,lo.map a.eval=some (.int k nl):=by
  cases lo with
  | none=>simp only [bound,zp3] at hbl;exact .inl ⟨rfl,by omega⟩
  | some x=>obtain ⟨k,e1⟩:=bound_some hg hbl R;exact .inr ⟨k,by simp [e1]⟩
 have hbh':(hi.map a.eval=none/\nh=m) \/ ∃ k,hi.map a.eval=some (.int k nh):=by
  cases hi with
  | none=>simp only [bound,zp3] at hbh;refine .inl ⟨rfl,?_⟩;have:(m:Int)=nh:=hbh;omega
  | some x=>obtain ⟨k,e1⟩:=bound_some hg hbh R;exact .inr ⟨k,by simp [e1]⟩
 have hz2':nh<=m:=by have:(nh:Int)<=(m:Int):=hz2;omega
 have hrun:=run_sliceBoundsA (P:=P) (w:=w) (len:=m) (nl:=nl) (nh:=nh) hbl' hbh' (by omega) hz2'
 refine ⟨_,by simp [execOp,hop,Instr.sliceAt,Go.underlying,hT.array ht,hv,Instr.sureAddr,hrun,hT.size hte];rfl,fun d => ?_⟩
 have hoff:(i+(j:Int)).toNat=Q*td.size:=by rw [<-hq,<-Int.natCast_mul,Int.toNat_natCast]
 have e4:((nh:Int)-(nl:Int)).toNat=nh-nl:=by omega
 by_cases hm:m=nl
 ·rw [if_pos hm]
  have:=RepV.mref (G:=G) (w:=w) (.s d) a0 td.size ((Q:Int)+nl) ((nh:Int)-nl) (G.β (.o a0)) (i+(j:Int)).toNat (m-nl) hnh (by omega) (by omega) (by omega) (by omega)
  rwa [e4] at this
 ·rw [if_neg hm]
  have:=RepV.mref (G:=G) (w:=w) (.s d) a0 td.size ((Q:Int)+nl) ((nh:Int)-nl) (G.β (.o a0)) ((i+(j:Int)).toNat+nl*td.size) (m-nl) hnh (by omega) (by omega) (by omega) (fun hlt=>by
   refine ⟨rfl,?_⟩
   rw [hoff,<-Nat.add_mul];congr 1)
  rw [e4] at this
  simpa [Addr.add_none] using this
theorem sm_zero {t:TypeId} {s:Nat} {hi mx:Operand} (hop:o.op = .slice t (.tmp s) none (some hi) (some mx)) {a0 k:Nat} {l0 ln:Int} (hs:g s = .mref a0 k l0 ln) {es:Nat}
  (hes:elemSize T t=some es) (hbh:bound g T 1 (some hi)=some 0) (hbm:bound g T 1 (some mx)=some 0) (hk:es=k)
  (h:put σ.n g o.dst (.lim k [])=some (ss,h')):StepOk P σ o ss h':=by
 obtain ⟨sz,e,z,td,ht,hte,rfl⟩:=elemSize_some hes
 subst hk
 refine stepOk_pure hgd h (by simp [hop]) (fun _ _ e=>by cases e) ?_
 intro G a w R
 obtain ⟨b,off,cap,hv,hnh,hlo,hn,hcap,hbo⟩:=mref_val hg R (x := .tmp s) hs
 obtain ⟨k2,e2⟩:=bound_some hg hbh R
 obtain ⟨k3,e3⟩:=bound_some hg hbm R
 have hrun:=run_sliceBounds (P:=P) (w:=w) (len:=ln.toNat) (cap:=cap) (nl:=0) (nh:=0) (m:=0) (low:=none) (high:=some (a.eval hi)) (max:=some (a.eval mx))
  (.inl ⟨rfl,rfl⟩) (.inr ⟨k2,by rw [e2];rfl⟩) (.inr ⟨⟨k3,by rw [e3];rfl⟩,rfl⟩) (by omega) (by omega) (by omega)
 refine ⟨.slice (some ⟨b,off,none⟩) 0 0,by simp [execOp,hop,Instr.sliceAt,Instr.slice,Go.underlying,hT.slice ht,hv,hrun,hT.size hte],fun d => ?_⟩
 exact .lim _ _ _ _ (.none0 _ _) (fun a n cap e=>by cases e;rfl)
theorem sm_nil {t:TypeId} {s:Nat} {t':TypeId} (hop:o.op = .binOp .eql t (.tmp s) (.const (.slice none 0 0)) t') {sz:Nat} {e:TypeId} {z:List AV} (ht:T t=some ⟨sz,.slice e,z⟩) {a0 k:Nat} {l0 ln:Int} (hs:g s = .mref a0 k l0 ln)
  (h:put σ.n g o.dst (.d (.bool false))=some (ss,h')):StepOk P σ o ss h':=by
 have hnd : ∀ c,o.op ≠ .defer c:=by simp [hop]
 refine stepOk_pure hgd h hnd (AV.free_place rfl) ?_
 intro G a w R
 obtain ⟨b,off,cap,hv,hnh,hlo,hn,hcap,hbo⟩:=mref_val hg R (x := .tmp s) hs
 refine ⟨.bool false,?_,fun d => .d _ _ _ (.bool _)⟩
 have he:=run_equal_slice_nil (P:=P) w t e (some ⟨b,off,none⟩) ln.toNat cap (hT.slice ht)
 have hgd:(eqGuard .eql t (.tmp s) (.const (.slice none 0 0)) (.slice (some ⟨b,off,none⟩) ln.toNat cap) (.slice none 0 0)).run P w = .ok () w:=by
  unfold eqGuard;simp
 have hbo:(Go.binOp .eql t (.slice (some ⟨b,off,none⟩) ln.toNat cap) (.slice none 0 0)).run P w = .ok (.bool false) w:=by
  simp [Go.binOp,he]
 have hc:a.eval (.const (.slice none 0 0)) = .slice none 0 0:=rfl
 simp [execOp,hop,hv,hc,hgd,hbo]
theorem sm_copy {s y:Nat} {t u:TypeId} (hop:o.op = .call { callee := .builtin .copy,args := #[.tmp s,.tmp y],argTypes := #[t,u] }) {a0 k:Nat} {lo n1 lo2 n2:Int} {l:List D}
  (hs:g s = .mref a0 k lo n1) (hy:g y = .mref a0 k lo2 n2) (het:elemSize T t=some k) (hHi:σ.heap[a0]?=some (.arr 1 l)) (hk:0<k)
  (hc1:n2<=n1) (hc2:(lo+n1)*(k:Int)<=(l.length:Int)) (hc3:(lo2+n2)*(k:Int)<=(l.length:Int)) {ss1:Sets} {h1:Option (List Obj)} (hp:put σ.n g o.dst (.d (.int .i64 n2))=some (ss1,h1)) :
  StepOk P σ o ss1 (some (σ.heap.set a0 (.arr 1 (Ar.std.spl l (lo*(k:Int)) (Ar.std.sub l (lo2*(k:Int)) ((lo2+n2)*(k:Int))))))):=by
 have hnd : ∀ c,o.op ≠ .defer c:=by simp [hop]
 obtain ⟨sz,e,zz,td,hTt,hTe,hks⟩:=elemSize_some het
 obtain ⟨rfl,hcase⟩:=put_some hp
 intro r n m G a w Q next hm R hn
 obtain ⟨b,off,cap,hv,hnh,hlo,hn0,hnc,hbo⟩:=mref_val hg R (x := .tmp s) hs
 obtain ⟨b2,off2,cap2,hv2,_,hlo2,hn2,hcap2,hbo2⟩:=mref_val hg R (x := .tmp y) hy
 obtain ⟨vs,ec,hO,hw,hu,hsz,hone,hh⟩:=R.h.objs a0 _ hHi
 have hfl:=flat_length hu
 obtain ⟨LO,rfl⟩:=zp9 hlo
 obtain ⟨N1,rfl⟩:=zp9 hn0
 obtain ⟨L2,rfl⟩:=zp9 hlo2
 obtain ⟨N2,rfl⟩:=zp9 hn2
 have hb2:LO*k+N1*k<=l.length:=by
  have:(((LO+N1)*k:Nat):Int)<=(l.length:Int):=by simpa using hc2
  rw [<-Nat.add_mul];omega
 have hb2':L2*k+N2*k<=l.length:=by
  have:(((L2+N2)*k:Nat):Int)<=(l.length:Int):=by simpa using hc3
  rw [<-Nat.add_mul];omega
 have hb3:N2*k<=N1*k:=Nat.mul_le_mul_right _ (by omega)
 obtain ⟨l',hl'⟩ : ∃ l',Ar.std.spl l (((LO:Nat):Int)*(k:Int)) (Ar.std.sub l (((L2:Nat):Int)*(k:Int)) ((((L2:Nat):Int)+((N2:Nat):Int))*(k:Int)))=l':=⟨_,rfl⟩
 rw [hl'] at hn
 have hl'':l'=l.take (LO*k)++(l.drop (L2*k)).take (N2*k)++l.drop (LO*k+N2*k):=by
  rw [<-hl']
  have e2:(((LO:Nat):Int)*(k:Int)).toNat=LO*k:=by rw [<-Int.natCast_mul,Int.toNat_natCast]
  have e3:(((L2:Nat):Int)*(k:Int)).toNat=L2*k:=by rw [<-Int.natCast_mul,Int.toNat_natCast]
  have e4:((((L2:Nat):Int)+((N2:Nat):Int))*(k:Int)).toNat=L2*k+N2*k:=by
   rw [<-Int.natCast_add,<-Int.natCast_mul,Int.toNat_natCast,Nat.add_mul]
  have e5:L2*k+N2*k-L2*k=N2*k:=by omega
  have e6:((l.drop (L2*k)).take (N2*k)).length=N2*k:=by simp;omega
  simp only [Ar.std,e2,e3,e4,e5,e6]
 have hdst' : ∀ (w':World),Rel G (σ.upd [] (some (σ.heap.set a0 (.arr 1 l')))) a w' ->
   Rel G (σ.upd ss1 (some (σ.heap.set a0 (.arr 1 l')))) (a.put o.dst (.int .i64 (N2:Int))) w':=by
  intro w' R'
  rcases hcase with ⟨hd,rfl⟩ | ⟨d,hd,rfl,hlt,hbx⟩
  ·rw [hd];simpa [Act.put,St.upd,esets] using R'
  ·rw [hd]
   have hrep:RepV G w' (.s d) (.d (.int .i64 (N2:Int))) (.int .i64 (N2:Int)) := .d _ _ _ (.int _ _)
   have:=R'.put (d:=d) hrep (fun r off e=>by cases e) (by rw [hgd d hd] at hbx;exact hbx) hlt
   simpa [St.upd,esets] using this
 have hmin:Nat.min N2 N1=N2:=Nat.min_eq_left (by omega)
 have hmin':min N2 N1=N2:=hmin
 simp only [Int.toNat_natCast] at hv hbo hv2 hbo2
 by_cases hz:N2=0
 ·subst hz
  have hll:l'=l:=by rw [hl''];simp
  have hset:σ.heap.set a0 (.arr 1 l')=σ.heap:=by
   rw [hll]
   apply List.ext_getElem?
   intro i
   by_cases hi:a0=i
   ·subst hi;rw [List.getElem?_set_self (zp2.1 hHi).1,hHi]
   ·rw [List.getElem?_set_ne hi]
  have hrun:(execOp a.eval o).run P w = .ok (.value (.int .i64 0)) w:=by
   simp [execOp,hop,resolve,invoke,Go.builtin,Builtin.copy_,hv,hv2,Go.underlying,hT.slice hTt,hT.size hTe,Builtin.lenOf,hks,Builtin.firstCells,loadCells,loadCellsFrom,storeCells,goInt]
  have:=hdst' w (by rw [hset];simpa [St.upd,esets] using R)
  refine wp_value hnd hrun (hn G _ _ this (Ext.refl _ _ _))
 ·obtain ⟨rfl,rfl⟩:=hbo (by omega)
  obtain ⟨rfl,rfl⟩:=hbo2 (by omega)
  let zs:List Value:=(List.range (N2*k)).map fun j=>vs.getD (L2*k+j) Go.undef
  have hzl:zs.length=N2*k:=by simp [zs]
  have hzg : ∀ q,q<N2*k->zs.getD q Go.undef=vs.getD (L2*k+q) Go.undef:=by
   intro q hq
   simp [zs,List.getD,hq]
  have hld:=run_loadCells (P:=P) w ⟨G.β (.o a0),L2*k,none⟩ (N2*k) (fun j=>vs.getD (L2*k+j) Go.undef) (fun j hj=>by
   rw [Addr.add_none]
   exact cell_at hw (by omega))
  have hst:=run_storeCells_at P (G.β (.o a0)) (LO*k) ec zs 0 vs w hw (by omega) (fun v hv=>by
   obtain ⟨q,hq,rfl⟩:=List.mem_iff_getElem.1 hv
   have hq':q<N2*k:=by omega
   have:=hzg q hq'
   rw [List.getD_eq_getElem?_getD,zp1 hq] at this
   simp only [Option.getD_some] at this
   rw [this]
   exact hone _ (by omega))
  simp only [Nat.add_zero] at hst
  have hrun:(execOp a.eval o).run P w = .ok (.value (.int .i64 (N2:Int))) (w.setRow (G.β (.o a0)) (rowOf vs (LO*k) zs)):=by
   have hfc:(Builtin.firstCells k N2 (.slice (some ⟨G.β (.o a0),L2*k,none⟩) N2 cap2)).run P w = .ok zs.toArray w:=by
    simp [Builtin.firstCells,hld,zs]
   simp [execOp,hop,resolve,invoke,Go.builtin,Builtin.copy_,hv,hv2,Go.underlying,hT.slice hTt,hT.size hTe,Builtin.lenOf,hks,hmin,hmin',hfc,hst,rowOf,goInt]
  have huf:uniform 1 l':=by
   intro x hx
   rw [hl''] at hx
   simp only [List.mem_append] at hx
   rcases hx with (hx | hx) | hx
   ·exact hu x (List.mem_of_mem_take hx)
   ·exact hu x (List.mem_of_mem_drop (List.mem_of_mem_take hx))
   ·exact hu x (List.mem_of_mem_drop hx)
  have hll:l'.length=l.length:=by rw [hl''];simp;omega
  have hff:(D.flat l').length=(D.flat l).length:=by rw [flat_length huf,flat_length hu,hll]
  have hflat:D.flat l'=(D.flat l).take (LO*k)++((D.flat l).drop (L2*k)).take (N2*k)++(D.flat l).drop (LO*k+N2*k):=by
   have e1:=flat_take hu (n:=LO*k)
   have e2:=flat_drop hu (n:=LO*k+N2*k)
   have e3:=flat_drop hu (n:=L2*k)
   have e4:=flat_take (l:=l.drop (L2*k)) (k:=1) (n:=N2*k) (fun x hx=>hu x (List.mem_of_mem_drop hx))
   simp only [Nat.mul_one] at e1 e2 e3 e4
   rw [hl'',flat_append,flat_append,e1,e2,e4,e3]
  have hrs:LO*k+zs.length<=vs.size:=by rw [hzl];omega
  have hget : ∀ q,q<(D.flat l').length -> ∃ q',q'<(D.flat l).length/\(D.flat l')[q]?=(D.flat l)[q']?/\(rowOf vs (LO*k) zs).getD q Go.undef=vs.getD q' Go.undef:=by
   intro q hq
   rw [rowOf_get hrs,hzl,hflat]
   have hlen1:((D.flat l).take (LO*k)).length=LO*k:=by simp;omega
   have hlen2:(((D.flat l).drop (L2*k)).take (N2*k)).length=N2*k:=by simp;omega
   by_cases c1:q<LO*k
   ·refine ⟨q,by omega,?_,by rw [if_pos c1]⟩
    rw [List.append_assoc,zp7 (by omega),List.getElem?_take_of_lt c1]
   ·by_cases c2:q<LO*k+N2*k
    ·refine ⟨L2*k+(q-LO*k),by omega,?_,by rw [if_neg c1,if_pos c2,hzg _ (by omega)]⟩
     rw [List.append_assoc,zp8 (by omega),hlen1,zp7 (by omega),List.getElem?_take_of_lt (by omega),List.getElem?_drop]
    ·refine ⟨q,by omega,?_,by rw [if_neg c1,if_neg c2]⟩
     rw [zp8 (by simp;omega),List.getElem?_drop]
     congr 1
     simp only [List.length_append,hlen1,hlen2]
     omega
  have each : ∀ (q:Nat) (hq:q<(D.flat l').length),RepD G.K (D.flat l')[q] ((rowOf vs (LO*k) zs).getD q Go.undef)/\((rowOf vs (LO*k) zs).getD q Go.undef).oneCell'=true:=by
   intro q hq
   obtain ⟨q',h1,h2,h3⟩:=hget q hq
   rw [zp1 hq,zp1 h1] at h2
   rw [h3,Option.some.inj h2]
   exact ⟨hh q' h1,hone q' h1⟩
  obtain ⟨hcore,hext⟩:=storeArr_core R hHi hw (l':=l') (row:=rowOf vs (LO*k) zs) huf (by rw [rowOf_size hrs];omega) (fun q hq=>(each q hq).2) (fun q hq=>(each q hq).1)
  exact wp_value hnd hrun (hn G _ _ (hdst' _ hcore) (hext m))
theorem mref_src {y k:Nat} {a0:Nat} {lo ln:Int} {l:List D} (hy:g y = .mref a0 k lo ln) (hHi:σ.heap[a0]?=some (.arr k l)) (hc:lo+ln<=(l.length:Int)) {G:Gh} {a:Act} {w:World} (R:Rel G σ a w) :
  uniform k (Ar.std.sub l lo (lo+ln))/\(∃ b cap,a.eval (.tmp y) = .slice b (Ar.std.sub l lo (lo+ln)).length cap) /\ ∀ w':World,w'.heap=w.heap -> ∃ arr:Array Value,(Builtin.firstCells k (Ar.std.sub l lo (lo+ln)).length (a.eval (.tmp y))).run P w' = .ok arr w'/\arr.size=(D.flat (Ar.std.sub l lo (lo+ln))).length /\
   ∀ (q:Nat) (hq:q<(D.flat (Ar.std.sub l lo (lo+ln))).length),RepD G.K (D.flat (Ar.std.sub l lo (lo+ln)))[q] (arr.getD q Go.undef)/\(arr.getD q Go.undef).oneCell'=true:=by
 obtain ⟨b,off,cap,hv,hnh,hlo,hn0,hcap,hbo⟩:=mref_val hg R (x := .tmp y) hy
 obtain ⟨vs,ec,hO,hw,hu,hsz,hone,hh⟩:=R.h.objs a0 _ hHi
 obtain ⟨LO,rfl⟩:=zp9 hlo
 obtain ⟨N,rfl⟩:=zp9 hn0
 have hfl:=flat_length hu
 have e0:Ar.std.sub l (LO:Int) ((LO:Int)+(N:Int))=(l.drop LO).take N:=by
  simp only [Ar.std]
  have:((LO:Int)+(N:Int)).toNat-(LO:Int).toNat=N:=by omega
  rw [this];rfl
 rw [e0]
 have hln:((l.drop LO).take N).length=N:=by simp;omega
 have huf:uniform k ((l.drop LO).take N):=fun x hx=>hu x (List.mem_of_mem_drop (List.mem_of_mem_take hx))
 have hff:=flat_length huf
 rw [hln] at hff
 refine ⟨huf,⟨_,cap,by rw [hln];simpa using hv⟩,fun w' hw' => ?_⟩
 rw [hln,hv]
 simp only [Int.toNat_natCast]
 have hmul:LO*k+N*k<=l.length*k:=by rw [<-Nat.add_mul];exact Nat.mul_le_mul_right _ (by omega)
 rcases Nat.eq_zero_or_pos N with h0 | h0
 ·subst h0
  refine ⟨#[],by simp [Builtin.firstCells,loadCells,loadCellsFrom],?_,fun q hq => ?_⟩
  ·rw [hff];simp
  ·rw [hff] at hq;omega
 ·obtain ⟨rfl,rfl⟩:=hbo (by omega)
  simp only [Int.toNat_natCast]
  have hl:=run_loadCells (P:=P) w' ⟨G.β (.o a0),LO*k,none⟩ (N*k) (fun j=>vs.getD (LO*k+j) Go.undef) (fun j hj=>by
   rw [Addr.add_none]
   have:=cell_at hw (show LO*k+j<vs.size by omega)
   unfold World.cell? at *
   rwa [hw'])
  refine ⟨((List.range (N*k)).map fun j=>vs.getD (LO*k+j) Go.undef).toArray,by simp [Builtin.firstCells,hl],by simp [hff],fun q hq => ?_⟩
  rw [hff] at hq
  have e1:((List.range (N*k)).map fun j=>vs.getD (LO*k+j) Go.undef).toArray.getD q Go.undef=vs.getD (LO*k+q) Go.undef:=by
   simp [hq]
  rw [e1]
  have e2:D.flat ((l.drop LO).take N)=((D.flat l).drop (LO*k)).take (N*k):=by
   rw [flat_take (fun x hx=>hu x (List.mem_of_mem_drop hx)),flat_drop hu]
  have hj:LO*k+q<(D.flat l).length:=by omega
  have e3:(D.flat ((l.drop LO).take N))[q]'(by rw [hff];exact hq)=(D.flat l)[LO*k+q]:=by
   apply Option.some.inj
   rw [<-zp1,<-zp1,e2,List.getElem?_take_of_lt hq,List.getElem?_drop]
  rw [e3]
  exact ⟨hh _ hj,hone _ hj⟩
theorem sm_append {s y d:Nat} {t u:TypeId} (hop:o.op = .call { callee := .builtin .append,args := #[.tmp s,.tmp y],argTypes := #[t,u] }) {a0 k:Nat} {lo ln:Int} {l ll:List D}
  (hs:(g s).ownOf=some (k,l)) (hy:g y = .mref a0 k lo ln) (het:elemSize T t=some k) (heu:elemSize T u=some k) (hHi:σ.heap[a0]?=some (.arr k ll)) (hk:0<k) (hd:o.dst=some d) (hlt:d<σ.n) (hbx:(g d).isBox=false) (hsd : ¬ s=d)
  (hc:lo+ln<=(ll.length:Int)) (hfits:(l.length:Int)+(Ar.std.sub ll lo (lo+ln)).length<4294967296):StepOk P σ o [(s,.d (.list k l)),(d,.own k (l++Ar.std.sub ll lo (lo+ln)))] none:=by
 have hcase:g s = .own k l\/(g s = .lim k []/\l=[]):=by
  unfold AV.ownOf at hs
  split at hs
  ·rename_i h;cases hs;exact .inl h
  ·rename_i h;cases hs;exact .inr ⟨h,rfl⟩
  ·cases hs
 rcases hcase with hgs | ⟨hgs,rfl⟩
 ·have h9:=hg.eq hgs (by simp)
  exact append_core (z:=true) hT hg hgd hop het heu (fun R=>mref_src hT hg hgd hy hHi hc R) hd (.inl h9) (fun h=>by cases h) hk hlt hbx hsd hfits
 ·have hσ:=hg.eq hgs (by simp)
  intro r n m G a w Q next hm R hn
  have R':=R.unlimS hσ
  let g':Nat->AV:=fun q=>if q=s then .own k [] else g q
  have hg':Less g' (σ.upd [(s,.own k [])] none):=by
   intro q
   simp only [g',St.upd,St.get,esets,List.foldl_cons,List.foldl_nil,eget_eset]
   by_cases hq:q=s
   ·subst hq;simp
   ·rw [if_neg hq,if_neg (Ne.symm hq)];exact hg q
  have hgd' : ∀ d,o.dst=some d->g' d=(σ.upd [(s,.own k [])] none).get d:=by
   intro d' hd'
   rw [hd] at hd';cases hd'
   simp only [g',St.upd,St.get,esets,List.foldl_cons,List.foldl_nil,eget_eset]
   rw [if_neg (Ne.symm hsd),if_neg hsd];exact hgd d hd
  have hys : ¬ y=s:=by rintro rfl;rw [hgs] at hy;cases hy
  have hy':g' y = .mref a0 k lo ln:=by simp only [g'];rw [if_neg hys];exact hy
  have hHi':(σ.upd [(s,.own k [])] none).heap[a0]?=some (.arr k ll):=hHi
  have key:=append_core (σ:=σ.upd [(s,.own k [])] none) (z:=true) hT hg' hgd' hop het heu (fun R=>mref_src hT hg' hgd' hy' hHi' hc R) hd (.inl (by simp [St.upd,St.get,esets,eget_eset,AV.ownZ])) (fun h=>by cases h) hk hlt (by simp only [g'];rw [if_neg (Ne.symm hsd)];exact hbx) hsd hfits
  refine key r n m G a w Q next hm R' (fun G' a' w' R2 hE=>hn G' a' w' ?_ hE)
  have e:(σ.upd [(s,.own k [])] none).upd [(s,.d (.list k [])),(d,AV.ownZ true k ([]++Ar.std.sub ll lo (lo+ln)))] none=σ.upd [(s,.d (.list k [])),(d,.own k ([]++Ar.std.sub ll lo (lo+ln)))] none:=by
   simp only [St.upd,esets,List.foldl_cons,List.foldl_nil,eset_eset,AV.ownZ,if_true]
   rfl
  rw [e] at R2
  exact R2
theorem evMor_ok (hHe:heapy an g o=true->H=σ.heap) (h:evMor Ar.std T σ.n g H o=some (some (ss,h'))):StepOk P σ o ss h':=by
 unfold evMor at h
 split at h
 ·rename_i t s x hop
  split at h
  ·rename_i a0 k lo ln hs
   have hHσ:H=σ.heap:=hHe (by simp [heapy,hop,hs])
   subst hHσ
   split at h
   ·rename_i ll hHi
    split at h
    ·cases h
    ·simp only [zp3] at h
     split at h
     ·rename_i sz e zc kz z ht hi
      split at h
      ·rename_i td hte
       split at h
       ·rename_i hc
        simp [Ar.std] at hc
        exact sm_index hT hg hgd hop hs ht hte hi hc.1.1 hc.1.2 hc.2 h
       ·cases h
      ·cases h
     ·cases h
   ·cases h
  ·cases h
 ·rename_i t s lo hi hop
  split at h
  ·rename_i a0 i j hb
   have hHσ:H=σ.heap:=hHe (by
    unfold cellBase at hb
    split at hb
    ·rename_i hs;simp [heapy,hop,hs]
    ·rename_i hs;simp [heapy,hop,hs]
    ·cases hb)
   subst hHσ
   split at h
   ·rename_i ll hHi
    simp only [zp3] at h
    split at h
    ·rename_i sz m e z ht
     split at h
     ·rename_i td zh zl hte hbh hbl
      split at h
      ·rename_i hc
       simp [Ar.std] at hc
       obtain ⟨⟨⟨⟨h1,h2⟩,h3⟩,h4⟩,h5⟩:=hc
       split at h
       ·rename_i h6
        have h':=h
        rw [<-h6] at h'
        exact sm_slice hT hg hgd hop hb ht hte hbh hbl h1 h2 (by simpa using h3) h4 (q:=i+(j:Int)) h4 (by rw [h6];simp) (by rw [h6];rw [h6] at h';exact h')
       ·split at h
        ·rename_i hq
         simp only [zp4] at hq
         have hq1:0<=Ar.std.quo .i64 (Ar.std.zadd i (Int.ofNat j)) (Int.ofNat td.size):=by simpa [Ar.std] using hq.1
         have hq2:Ar.std.quo .i64 (Ar.std.zadd i (Int.ofNat j)) (Int.ofNat td.size)*(td.size:Int)=i+(j:Int):=by simpa [Ar.std] using hq.2
         exact sm_slice hT hg hgd hop hb ht hte hbh hbl h1 h2 (by simpa using h3) h4 hq1 hq2 h
        ·cases h
      ·cases h
     ·cases h
    ·cases h
   ·cases h
  ·cases h
 ·rename_i t s hi mx hop
  split at h
  ·rename_i a0 k l0 ln hs
   simp only [zp3] at h
   split at h
   ·rename_i es zh zm hes hbh hbm
    split at h
    ·rename_i hc
     simp only [zp4,decide_eq_true_eq] at hc
     obtain ⟨⟨h1,rfl⟩,rfl⟩:=hc
     exact sm_zero hT hg hgd hop hs hes hbh hbm h1 h
    ·cases h
   ·cases h
  ·cases h
 ·rename_i t s t' hop
  split at h
  ·rename_i a0 k l0 ln hs
   simp only [zp3] at h
   split at h
   ·rename_i sz e z ht
    exact sm_nil hT hg hgd hop ht hs h
   ·cases h
  ·cases h
 ·rename_i args ts hop
  split at h
  ·rename_i s y t u hargs hts
   obtain rfl:args = #[.tmp s,.tmp y]:=by cases args;simp_all
   obtain rfl:ts = #[t,u]:=by cases ts;simp_all
   split at h
   ·rename_i a0 k lo n1 a1 k1 lo2 n2 hs hy
    have hHσ:H=σ.heap:=hHe (by simp [heapy,hop,hs])
    subst hHσ
    simp only [zp3] at h
    split at h
    ·rename_i es l het hHi
     split at h
     ·rename_i hc
      simp [Ar.std] at hc
      obtain ⟨⟨⟨⟨⟨⟨q1,q2⟩,q3⟩,hk⟩,hc1⟩,hc2⟩,hc3⟩:=hc
      subst q1 q2 q3
      simp only [Option.map_eq_some_iff] at h
      obtain ⟨⟨ss1,h1⟩,hp,he⟩:=h
      simp only [Prod.mk.injEq] at he
      obtain ⟨rfl,rfl⟩:=he
      exact sm_copy hT hg hgd hop hs hy het hHi hk hc1 hc2 hc3 hp
     ·cases h
    ·cases h
   ·cases h
  ·cases h
 ·rename_i args ts hop
  split at h
  ·rename_i s y t u d hargs hts hd
   obtain rfl:args = #[.tmp s,.tmp y]:=by cases args;simp_all
   obtain rfl:ts = #[t,u]:=by cases ts;simp_all
   split at h
   ·rename_i k1 l a0 k2 lo ln hs hy
    have hHσ:H=σ.heap:=hHe (by simp [heapy,hop,hy])
    subst hHσ
    simp only [zp3] at h
    split at h
    ·rename_i k k1' k3 ll het heu hHi
     split at h
     ·rename_i hc
      simp only [zp4,decide_eq_true_eq,Bool.not_eq_true'] at hc
      obtain ⟨⟨⟨⟨⟨⟨⟨⟨⟨q1,q2⟩,q3⟩,q4⟩,hk⟩,hlt⟩,hbx⟩,hsd⟩,hc1⟩,hc2⟩:=hc
      subst q1 q2 q3 q4
      simp only [zp3,Prod.mk.injEq] at h
      obtain ⟨rfl,rfl⟩:=h
      exact sm_append hT hg hgd hop hs hy het heu hHi hk hd hlt hbx hsd (by simpa [Ar.std] using hc1) (by simpa [Ar.std] using hc2)
     ·cases h
    ·cases h
   ·cases h
  ·cases h
 ·cases h
end
theorem evMor_len {A:Ar} {T:Types} {n:Nat} {g:Nat->AV} {H H':List Obj} {o:Oper} {ss:Sets} (h:evMor A T n g H o=some (some (ss,some H'))):H.length<=H'.length:=by
 unfold evMor at h
 repeat' split at h
 all_goals first
  | (cases h;done)
  | (simp only [zp3] at h;exact absurd (put_some h).1 (by simp))
  | (simp at h;done)
  | (simp only [zp3,Option.map_eq_some_iff] at h
     obtain ⟨p,_,hp⟩:=h
     simp only [Prod.mk.injEq,zp3] at hp
     rw [<-hp.2];simp)
end Go.Am

namespace Go.Am
open Go
theorem evBase_ok {P:Program} {T:Types} (hT:TOk P T) {σ:St} {g:Nat->AV} {o:Oper} {ss:Sets} {h':Option (List Obj)} {H:List Obj} {an:Ann}
  (hg:Less g σ) (hgd : ∀ d,o.dst=some d->g d=σ.get d) (hH : ∀ (i:Nat) (ob:Obj),H[i]?=some ob->σ.heap[i]?=some ob) (hHe:heapy an g o=true->H=σ.heap)
  (h:evBase Ar.std T an σ.n g H o=some (ss,h')):StepOk P σ o ss h':=by
 have h0:=h
 cases hop:o.op with
 | move x=>exact step_move hg hgd h (.inl hop)
 | assign x=>exact step_move hg hgd h (.inr hop)
 | pick c a b=>exact step_pick hg hgd h hop
 | alloc t=>exact step_alloc hT hg hgd hHe h hop
 | box t x=>exact step_box hT hg hgd hHe h hop
 | build t ps=>exact step_build hT hg hgd h hop
 | buildSlice t n ps=>exact step_buildSlice hT hg hgd h hop
 | load t x=>exact step_load hT hg hgd hH h hop hHe
 | store t x y=>exact step_store hT hg hHe h hop
 | binOp op t x y t'=>exact step_binOp hg hgd h hop
 | unOp op t x =>
   cases op with
   | not=>exact step_unOp hg hgd h hop
   | _=>simp [evBase,hop] at h
 | convert s t x=>exact step_convert hT hg hgd h hop
 | makeFunc fn a b =>
   cases fn with
   | func f=>exact step_makeFunc hg hgd h hop
   | _=>simp [evBase,hop] at h
 | slice t x a b c=>exact step_slice hT hg hgd h hop
 | fieldAddr t x f=>exact step_fieldAddr hT hg hgd h hop
 | field t x f=>exact step_field hT hg hgd h hop
 | indexAddr t x i=>exact step_indexAddr hT hg hgd h hop
 | extract x i=>exact step_extract hg hgd h hop
 | call c =>
   obtain ⟨callee,args,ts⟩:=c
   cases callee with
   | builtin b =>
     cases b with
     | len=>exact step_len hT hg hgd h hop
     | append=>exact step_append hT hg hgd h hop
     | _=>simp [evBase,hop] at h
   | _=>simp [evBase,hop] at h
 | _=>simp [evBase,hop] at h
theorem evCore_ok {P:Program} {T:Types} (hT:TOk P T) {σ:St} {g:Nat->AV} {o:Oper} {ss:Sets} {h':Option (List Obj)} {H:List Obj} {an:Ann}
  (hg:Less g σ) (hgd : ∀ d,o.dst=some d->g d=σ.get d) (hH : ∀ (i:Nat) (ob:Obj),H[i]?=some ob->σ.heap[i]?=some ob) (hHe:heapy an g o=true->H=σ.heap)
  (h:evCore Ar.std T an σ.n g H o=some (ss,h')):StepOk P σ o ss h':=by
 unfold evCore at h
 split at h
 ·rename_i r hr
  subst h
  exact evTail_ok hT hg hgd hr
 split at h
 ·rename_i r hr
  subst h
  exact evMor_ok hT hg hgd hHe hr
 split at h
 ·rename_i r hr
  subst h
  exact evCap_ok hT hg hgd hHe hr
 split at h
 ·rename_i r hr
  subst h
  exact evVar_ok hT hg hgd hH hHe hr
 split at h
 ·rename_i r hr
  subst h
  exact evGro_ok hT hg hgd hH hHe hr
 split at h
 ·rename_i r hr
  subst h
  exact evArr_ok hT hg hgd hH hHe hr
 ·split at h
  ·rename_i r hr
   subst h
   exact evObj_ok hT hg hgd hH hHe hr
  ·exact evBase_ok hT hg hgd hH hHe h
def Post (m:Nat) (G:Gh) (w:World) (Q:Exit->St->Prop):Exit->Act->World->Prop :=
 fun e a' w' => ∃ σ' G',Rel G' σ' a' w'/\Ext m G w G' w'/\m<=G'.nh/\Q e σ'
theorem Post.ext {m:Nat} {G G1:Gh} {w w1:World} {Q:Exit->St->Prop} (h:Ext m G w G1 w1) {e:Exit} {a:Act} {w':World} (hp:Post m G1 w1 Q e a w'):Post m G w Q e a w':=by
 obtain ⟨σ',G',R,hE,hm,hq⟩:=hp
 exact ⟨σ',G',R,h.trans hE,hm,hq⟩
def AWp (P:Program) (m:Nat) (c:Code) (Q:Exit->St->Prop) (σ:St):Prop :=
 ∀ (r:Option Nat) (n:Nat) (G:Gh) (a:Act) (w:World),m<=G.nh->Rel G σ a w->c.wpIn (Wd r) n P (Post m G w Q) a w
def AWpT (P:Program) (m:Nat) (c:Code) (Q:Exit->St->Prop) (σ:St):Prop :=
 ∀ (n:Nat) (G:Gh) (a:Act) (w:World),m<=G.nh->Rel G σ a w->c.wpIn (Wd none) n P (Post m G w Q) a w
theorem AWpT.of {P:Program} {m:Nat} {c:Code} {Q:Exit->St->Prop} {σ:St} (h:AWp P m c Q σ):AWpT P m c Q σ:=fun n G a w hm R=>h none n G a w hm R
def AExit.then (K:St->Prop) (Q:Exit->St->Prop):Exit->St->Prop
 | .normal,σ=>K σ
 | e,σ=>Q e σ
def AExit.block (id:Nat) (Q:Exit->St->Prop):Exit->St->Prop
 | .exit j,σ=>if j=id then Q .normal σ else Q (.exit j) σ
 | e,σ=>Q e σ
section
variable {P:Program} {m:Nat} {Q:Exit->St->Prop} {σ:St}
theorem AWp.mono {c:Code} {Q':Exit->St->Prop} (h:AWp P m c Q σ) (hq : ∀ e σ,Q e σ->Q' e σ):AWp P m c Q' σ:=by
 intro r n G a w hm R
 refine wpIn_mono (h r n G a w hm R) ?_
 rintro e a' w' ⟨σ',G',R',hE,hm',hQ⟩
 exact ⟨σ',G',R',hE,hm',hq _ _ hQ⟩
theorem AWp.skip (h:Q .normal σ):AWp P m .skip Q σ:=fun _ _ G _ _ hm R=>wpIn_skip ⟨σ,G,R,Ext.refl _ _ _,hm,h⟩
theorem AWp.exit {id:Nat} (h:Q (.exit id) σ):AWp P m (.exit id) Q σ:=fun _ _ G _ _ hm R=>wpIn_exit ⟨σ,G,R,Ext.refl _ _ _,hm,h⟩
theorem AWp.ret (h:Q .ret σ):AWp P m .ret Q σ:=fun _ _ G _ _ hm R=>wpIn_ret ⟨σ,G,R,Ext.refl _ _ _,hm,h⟩
theorem AWp.seq {x y:Code} (h:AWp P m x (AExit.then (AWp P m y Q) Q) σ):AWp P m (.seq x y) Q σ:=by
 intro r n G a w hm R
 refine wpIn_seq (wpIn_mono (h r n G a w hm R) ?_)
 rintro e a' w' ⟨σ',G',R',hE,hm',hQ⟩
 cases e with
 | normal=>exact wpIn_mono (hQ r n G' a' w' hm' R') (fun e a w hp=>hp.ext hE)
 | _=>exact ⟨σ',G',R',hE,hm',hQ⟩
theorem AWpT.mono {c:Code} {Q':Exit->St->Prop} (h:AWpT P m c Q σ) (hq : ∀ e σ,Q e σ->Q' e σ):AWpT P m c Q' σ:=by
 intro n G a w hm R
 refine wpIn_mono (h n G a w hm R) ?_
 rintro e a' w' ⟨σ',G',R',hE,hm',hQ⟩
 exact ⟨σ',G',R',hE,hm',hq _ _ hQ⟩
theorem AWpT.seq {x y:Code} (h:AWpT P m x (AExit.then (AWpT P m y Q) Q) σ):AWpT P m (.seq x y) Q σ:=by
 intro n G a w hm R
 refine wpIn_seq (wpIn_mono (h n G a w hm R) ?_)
 rintro e a' w' ⟨σ',G',R',hE,hm',hQ⟩
 cases e with
 | normal=>exact wpIn_mono (hQ n G' a' w' hm' R') (fun e a w hp=>hp.ext hE)
 | _=>exact ⟨σ',G',R',hE,hm',hQ⟩
theorem AWp.cond {c:Operand} {x y:Code} {b:Bool} (hc:(match c with | .tmp t=>σ.get t | .const (.bool b) => .d (.bool b) | _ => .undef) = .d (.bool b)) (h:AWp P m (if b then x else y) Q σ):AWp P m (.cond c x y) Q σ:=by
 intro r n G a w hm R
 refine wpIn_cond (t:=b) ?_ (h r n G a w hm R)
 split at hc
 ·rename_i t
  have:=R.slots t
  rw [hc] at this
  show a.tmps.getD t Go.undef=_
  generalize a.tmps.getD t Go.undef=v at this
  cases this with | d _ _ _ h=>cases h;rfl
 ·rename_i b'
  simp at hc;subst hc;rfl
 ·cases hc
theorem AWp.block {id:Nat} {c:Code} (h:AWp P m c (AExit.block id Q) σ):AWp P m (.block id c) Q σ:=by
 intro r n G a w hm R
 refine wpIn_block (wpIn_mono (h r n G a w hm R) ?_)
 rintro e a' w' ⟨σ',G',R',hE,hm',hQ⟩
 cases e with
 | exit j =>
   simp only [AExit.block] at hQ
   simp only [Exit.inBlock]
   split at hQ
   ·rename_i hj;rw [if_pos hj];exact ⟨σ',G',R',hE,hm',hQ⟩
   ·rename_i hj;rw [if_neg hj];exact ⟨σ',G',R',hE,hm',hQ⟩
 | _=>exact ⟨σ',G',R',hE,hm',hQ⟩
theorem AWpT.block {id:Nat} {c:Code} (h:AWpT P m c (AExit.block id Q) σ):AWpT P m (.block id c) Q σ:=by
 intro n G a w hm R
 refine wpIn_block (wpIn_mono (h n G a w hm R) ?_)
 rintro e a' w' ⟨σ',G',R',hE,hm',hQ⟩
 cases e with
 | exit j =>
   simp only [AExit.block] at hQ
   simp only [Exit.inBlock]
   split at hQ
   ·rename_i hj;rw [if_pos hj];exact ⟨σ',G',R',hE,hm',hQ⟩
   ·rename_i hj;rw [if_neg hj];exact ⟨σ',G',R',hE,hm',hQ⟩
 | _=>exact ⟨σ',G',R',hE,hm',hQ⟩
theorem AWp.loop {ι:Type} {c:Code} (μ:ι->Nat) (S:ι->St) (i0:ι) (h : ∀ i,AWp P m c (AExit.then (fun σ' => ∃ j,μ j<μ i/\σ'=S j) Q) (S i)):AWp P m (.loop c) Q (S i0):=by
 intro r n G a w hm R b k cs hro hb hr
 have key : ∀ (q:Nat) (i:ι),μ i=q -> ∀ (G1:Gh) (a:Act) (w1:World),m<=G1.nh->Rel G1 (S i) a w1->Ext m G w G1 w1 ->
   ∃ e a' w',Post m G w Q e a' w'/\ArrivesIn (Machine.fenced P (Wd r)) P (lone (b.atR a (.code c :: .inLoop c::k)) cs w1) b k cs e a' w':=by
  intro q
  induction q using Nat.strongRecOn with
  | _ q ih =>
    intro i hi G1 a w1 hm1 R1 hE1
    obtain ⟨e,a₁,w₁,hq,harr⟩:=h i r n G1 a w1 hm1 R1 b (.inLoop c::k) cs hro hb hr
    obtain ⟨σ',G',R',hE,hm',hQ⟩:=hq
    cases e with
    | normal =>
      obtain ⟨j,hlt,rfl⟩:=hQ
      obtain ⟨e₂,a₂,w₂,hq₂,harr₂⟩:=ih (μ j) (hi▸hlt) j rfl G' a₁ w₁ hm' R' (hE1.trans hE)
      exact ⟨e₂,a₂,w₂,hq₂,.of_steps (StepsIn.trans harr (.one (fenced_calm hb hr rfl) stepR_inLoop)) harr₂⟩
    | exit id=>exact ⟨_,a₁,w₁,⟨σ',G',R',hE1.trans hE,hm',hQ⟩,.pass (x := .inLoop c) rfl (fun _ _ => .inl (by simp)) harr⟩
    | goto l=>exact ⟨_,a₁,w₁,⟨σ',G',R',hE1.trans hE,hm',hQ⟩,.pass (x := .inLoop c) rfl (fun _ _ => .inl (by simp)) harr⟩
    | ret=>exact ⟨_,a₁,w₁,⟨σ',G',R',hE1.trans hE,hm',hQ⟩,.pass (x := .inLoop c) rfl (fun _ _ => .inl (by simp)) harr⟩
    | panic ch=>exact ⟨_,a₁,w₁,⟨σ',G',R',hE1.trans hE,hm',hQ⟩,.pass (x := .inLoop c) rfl (fun _ _ => .inl (by simp)) harr⟩
    | outgrown=>exact ⟨_,a₁,w₁,⟨σ',G',R',hE1.trans hE,hm',hQ⟩,.pass (x := .inLoop c) rfl (fun _ _ => .inl (by simp)) harr⟩
 obtain ⟨e,a',w',hq,harr⟩:=key _ i0 rfl G a w hm R (Ext.refl _ _ _)
 exact ⟨e,a',w',hq,.of_steps (.one (fenced_calm hb hr rfl) stepR_loop) harr⟩
end
def wantA (ops:List Oper) (σ:St) (o:Oper):Option Bool :=
 match o.guard with
 | none=>some true
 | some (j,b) =>
   match (ops[j]?).bind (·.dst) with
   | none=>some false
   | some d =>
     match σ.get d with
     | .d (.bool x)=>some (x == b)
     | .tuple []=>some false
     | _=>none
theorem wantA_ok {ops:Array Oper} {σ:St} {o:Oper} {b:Bool} (h:wantA ops.toList σ o=some b) {G:Gh} {a:Act} {w:World} (R:Rel G σ a w):Region.wanted o (yielded ops a.tmps)=b:=by
 unfold wantA at h
 unfold Region.wanted
 cases hgu:o.guard with
 | none=>simp [hgu] at h;simp [h]
 | some p =>
   obtain ⟨j,b'⟩:=p
   simp only [hgu] at h
   simp only [yielded]
   cases hd:(ops[j]?).bind (·.dst) with
   | none =>
     have hd':(ops.toList[j]?).bind (·.dst)=none:=by simpa using hd
     simp only [hd'] at h
     simp at h;subst h
     simp
   | some d =>
     have hd':(ops.toList[j]?).bind (·.dst)=some d:=by simpa using hd
     simp only [hd'] at h
     have hrep:=R.slots d
     simp only [Option.bind_some]
     split at h
     ·rename_i x hx
      rw [hx] at hrep
      simp at h
      generalize hv:a.tmps.getD d Go.undef=v at hrep
      cases hrep with | d _ _ _ hr =>
      cases hr
      have:a.tmps[d]?=some (.bool x):=by
       rw [zp5] at hv
       cases he:a.tmps[d]? with
       | none=>rw [he] at hv;simp [Go.undef] at hv
       | some y=>rw [he] at hv;simpa using hv
      simp only [this]
      rw [<-h];cases x <;> cases b' <;> rfl
     ·rename_i hx
      rw [hx] at hrep
      simp at h;subst h
      generalize hv:a.tmps.getD d Go.undef=v at hrep
      cases hrep with | tuple _ _ vs hs _ _ =>
      have : ∀ x,a.tmps[d]?≠some (.bool x):=by
       intro x he
       rw [zp5,he] at hv
       simp at hv
      split
      ·rename_i x he;exact absurd he (this x)
      ·simp
     ·simp at h
def AOps (P:Program) (m:Nat) (ops:Array Oper) (l:List Oper) (Q:Exit->St->Prop) (σ:St):Prop :=
 ∀ (r:Option Nat) (n:Nat) (G:Gh) (a:Act) (w:World) (Q':Exit->Act->World->Prop),m<=G.nh->Rel G σ a w->(∀ e a' w',Post m G w Q e a' w'->Q' e a' w')->wpListIn (Wd r) n P ops Q' l a w
section
variable {P:Program} {m:Nat} {Q:Exit->St->Prop} {σ:St} {ops:Array Oper} {o:Oper} {l:List Oper}
theorem AOps.nil (h:Q .normal σ):AOps P m ops [] Q σ:=fun _ _ G a w _ hm R hQ=>hQ _ a w ⟨σ,G,R,Ext.refl _ _ _,hm,h⟩
theorem AOps.step {ss:Sets} {h':Option (List Obj)} (hw:wantA ops.toList σ o=some true) (hs:StepOk P σ o ss h') (hlen:m<=(σ.upd ss h').heap.length) (h:AOps P m ops l Q (σ.upd ss h')):AOps P m ops (o::l) Q σ:=by
 intro r n G a w Q' hm R hQ
 unfold wpListIn
 rw [if_pos (wantA_ok hw R)]
 refine hs r n m G a w Q' _ hm R fun G' a' w' R' hE => ?_
 exact h r n G' a' w' Q' (by rw [<-R'.h.nh];exact hlen) R' (fun e a'' w'' hp=>hQ _ _ _ (hp.ext hE))
theorem AOps.skip {d:Nat} (hw:wantA ops.toList σ o=some false) (hd:o.dst=some d) (hlt:d<σ.n) (hb:(σ.get d).isBox=false) (h:AOps P m ops l Q (σ.upd [(d,.tuple [])] none)):AOps P m ops (o::l) Q σ:=by
 intro r n G a w Q' hm R hQ
 unfold wpListIn
 rw [wantA_ok hw R,if_neg (by simp)]
 refine ⟨fun _ _=>trivial,?_⟩
 rw [hd]
 exact h r n G _ w Q' hm (R.put (.tuple _ _ #[] rfl (fun i hi=>by simp at hi) (fun c hc=>by simp at hc)) (fun r off e=>by cases e) hb hlt) hQ
theorem AOps.skip0 (hw:wantA ops.toList σ o=some false) (hd:o.dst=none) (h:AOps P m ops l Q σ):AOps P m ops (o::l) Q σ:=by
 intro r n G a w Q' hm R hQ
 unfold wpListIn
 rw [wantA_ok hw R,if_neg (by simp)]
 refine ⟨fun _ _=>trivial,?_⟩
 rw [hd]
 exact h r n G _ w Q' hm R hQ
theorem AWp.region {id:Nat} (h:AOps P m ops ops.toList Q σ):AWp P m (.region id ops false) Q σ :=
 fun r n G a w hm R=>wpIn_region_list (h r n G a w _ hm R (fun _ _ _ hp=>hp))
end
theorem evBase_len {A:Ar} {T:Types} {an:Ann} {n:Nat} {g:Nat->AV} {H H':List Obj} {o:Oper} {ss:Sets} (h:evBase A T an n g H o=some (ss,some H')):H.length<=H'.length:=by
 have hput : ∀ {dst:Option Tmp} {v:AV},Am.put n g dst v≠some (ss,some H'):=by
  intro dst v e;have:=(put_some e).1;cases this
 have hputO : ∀ {dst:Option Tmp} {v:Option AV},putO n g dst v≠some (ss,some H'):=by
  intro dst v e;obtain ⟨x,_,e⟩:=putO_some e;exact hput e
 have hmap : ∀ {dst:Option Tmp} {v:AV} {q:Sets×Option (List Obj)->Sets},Option.map (fun p=>(q p,p.2)) (Am.put n g dst v)≠some (ss,some H'):=by
  intro dst v q e
  simp only [Option.map_eq_some_iff] at e
  obtain ⟨⟨s1,h1⟩,e1,e2⟩:=e
  have:=(put_some e1).1
  simp at e2;rw [this] at e2;exact absurd e2.2 (by simp)
 have hmap2 : ∀ {dst:Option Tmp} {v:AV} {q:Sets×Option (List Obj)->Sets} {H1:List Obj},H1.length=H.length->Option.map (fun p=>(q p,some H1)) (Am.put n g dst v)=some (ss,some H')->H.length<=H'.length:=by
  intro dst v q H1 hl e
  simp only [Option.map_eq_some_iff] at e
  obtain ⟨⟨s1,h1⟩,e1,e2⟩:=e
  simp at e2;rw [<-e2.2,hl];exact Nat.le_refl _
 cases hop:o.op <;> simp only [evBase,hop,blk_eq] at h
 all_goals (repeat' split at h)
 all_goals first
  | (cases h;done)
  | (exact absurd h hput)
  | (exact absurd h hputO)
  | (exact absurd h hmap)
  | (exact hmap2 (by simp) h)
  | (simp at h;done)
  | (simp at h;rw [<-h.2];simp;done)
  | (simp at h;obtain ⟨_,_,_,rfl⟩:=h;simp;done)
theorem evCap_len {A:Ar} {T:Types} {an:Ann} {n:Nat} {g:Nat->AV} {H H':List Obj} {o:Oper} {ss:Sets} (h:evCap A T an n g H o=some (some (ss,some H'))):H.length<=H'.length:=by
 unfold evCap at h
 split at h
 ·repeat' split at h
  all_goals first
   | (cases h;done)
   | (simp only [zp3] at h;exact absurd (put_some h).1 (by simp))
   | (simp at h;done)
 ·repeat' split at h
  all_goals first
   | (cases h;done)
   | (simp only [zp3] at h;exact absurd (put_some h).1 (by simp))
   | (simp at h;done)
 ·repeat' split at h
  all_goals first
   | (cases h;done)
   | (simp only [zp3] at h;exact absurd (put_some h).1 (by simp))
   | (simp at h;done)
 ·repeat' split at h
  all_goals first
   | (cases h;done)
   | (simp only [zp3] at h;exact absurd (put_some h).1 (by simp))
   | (simp at h;done)
 ·repeat' split at h
  all_goals first
   | (cases h;done)
   | (simp at h;done)
   | (simp only [zp3,Option.map_eq_some_iff] at h
      obtain ⟨p,_,hp⟩:=h
      simp only [Prod.mk.injEq,zp3] at hp
      rw [<-hp.2];simp)
 ·repeat' split at h
  all_goals first
   | (cases h;done)
   | (simp only [zp3] at h;exact absurd (put_some h).1 (by simp))
   | (simp at h;done)
 ·repeat' split at h
  all_goals first
   | (cases h;done)
   | (simp at h;done)
   | (simp only [zp3,Option.map_eq_some_iff] at h
      obtain ⟨p,_,hp⟩:=h
      simp only [Prod.mk.injEq,zp3] at hp
      rw [<-hp.2];simp)
 ·cases h
theorem evCore_len {A:Ar} {T:Types} {an:Ann} {n:Nat} {g:Nat->AV} {H H':List Obj} {o:Oper} {ss:Sets} (h:evCore A T an n g H o=some (ss,some H')):H.length<=H'.length:=by
 unfold evCore at h
 split at h
 ·rename_i r hr
  subst h
  exact (evTail_none hr).elim
 split at h
 ·rename_i r hr
  subst h
  exact evMor_len hr
 split at h
 ·rename_i r hr
  subst h
  exact evCap_len hr
 split at h
 ·rename_i r hr
  subst h
  exact evVar_len hr
 split at h
 ·rename_i r hr
  subst h
  exact evGro_len hr
 split at h
 ·rename_i r hr
  subst h
  exact evArr_len hr
 ·split at h
  ·rename_i r hr
   subst h
   exact evObj_len hr
  ·exact evBase_len h
end Go.Am

namespace Go.Am
open Go
mutual
def AV.inb (m:Nat):AV->Bool
 | .ptr a _ | .map a | .mref a _ _ _ | .mcap a _ _ _ _ | .eptr a _ _ _ | .vptr a _ _ _ _ _ | .yield a=>decide (a<m)
 | .gref a _=>decide (a+2<m)
 | .func _ as bs=>inbL m as&&inbL m bs
 | .agg cs | .tuple cs | .lbox cs=>inbL m cs
 | _=>true
def inbL (m:Nat):List AV->Bool
 | []=>true
 | c::r=>c.inb m&&inbL m r
end
def Obj.inb (m:Nat):Obj->Bool
 | .cells cs=>inbL m cs
 | .loop L=>inbL m (L.env.map (·.2))
 | _=>true
theorem inbL_get {m:Nat} : ∀ {cs:List AV},inbL m cs=true -> ∀ (i:Nat) (hi:i<cs.length),cs[i].inb m=true
 | c::r,h,0,_=>by simp [inbL] at h;exact h.1
 | c::r,h,i+1,hi=>by simp [inbL] at h;exact inbL_get h.2 i (by simpa using hi)
theorem inbL_eget {m:Nat} : ∀ {e:List (Nat×AV)},inbL m (e.map (·.2))=true -> ∀ t,(eget e t).inb m=true
 | [],_,_=>rfl
 | (s,v)::r,h,t=>by
   simp [inbL] at h
   simp only [eget]
   split
   ·exact h.1
   ·exact inbL_eget (by simpa using h.2) t
structure Sub (G G':Gh) (w w':World) (S:Loc->Prop) (m:Nat):Prop where
 K:KLe G.K G'.K
 O : ∀ (b:Nat) (ℓ:Loc) (f:Nat),S ℓ->G.O b=some (ℓ,f)->G'.O b=some (ℓ,f)/\w'.heap[b]?=w.heap[b]?
 β : ∀ a,a<m->G'.β (.o a)=G.β (.o a)
 nh:m<=G'.nh
theorem RepV.sub {G G':Gh} {w w':World} (hG:Sane G) {m:Nat} {ℓ:Loc} {av:AV} {v:Value} (h:RepV G w ℓ av v) :
  ∀ {S:Loc->Prop},Sub G G' w w' S m->S ℓ->av.inb m=true->av.isLocal=false->RepV G' w' ℓ av v:=by
 have no : ∀ {S:Loc->Prop},Sub G G' w w' S m->Sub G G' w w' (· = .no) m:=fun hp =>
  ⟨hp.K,fun b ℓ f hr hO=>absurd (hr▸rfl) (hG.no b ℓ f hO),hp.β,hp.nh⟩
 induction h with
 | undef ℓ v=>exact fun _ _ _ _ => .undef ℓ v
 | abool ℓ b=>exact fun _ _ _ _ => .abool ℓ b
 | d ℓ x v h=>exact fun hp _ _ _ => .d ℓ x v (h.mono hp.K)
 | ptr ℓ a off ha=>intro S hp _ hb _;simp [AV.inb] at hb;rw [<-hp.β a hb];exact .ptr ℓ a off (Nat.lt_of_lt_of_le hb hp.nh)
 | nilptr ℓ=>exact fun _ _ _ _ => .nilptr ℓ
 | iptr ℓ cs b off vs hK h1 h=>exact fun hp _ _ _ => .iptr ℓ cs b off vs (fun j hj=>hp.K _ _ (hK j hj)) h1 (fun j hj=>(h j hj).mono hp.K)
 | own ℓ k l v h ht =>
   intro S hp hS _ _
   refine .own ℓ k l v (h.mono hp.K) ?_
   intro a n cap hv hn
   obtain ⟨f,c,e,h1,h2,h3,h4⟩:=ht a n cap hv hn
   obtain ⟨h5,h6⟩:=hp.O _ _ _ hS h1
   exact ⟨f,c,e,h5,h2,h6.trans h3,h4⟩
 | lim ℓ k l v h ht=>exact fun hp _ _ _ => .lim ℓ k l v (h.mono hp.K) ht
 | tail ℓ k l v h ht =>
   intro S hp hS _ _
   refine .tail ℓ k l v (h.mono hp.K) ?_
   intro a n cap hv hn
   obtain ⟨f,c,e,h1,h2,h3,h4⟩:=ht a n cap hv hn
   obtain ⟨h5,h6⟩:=hp.O _ _ _ hS h1
   exact ⟨f,c,e,h5,h2,h6.trans h3,h4⟩
 | func ℓ f as bs va vb ha hb _ _ hc hc' ih ih' =>
   intro S hp _ hbl _
   simp [AV.inb] at hbl
   exact .func ℓ f as bs va vb ha hb (fun i hi=>ih i hi (no hp) rfl (inbL_get hbl.1 i hi) (hc _ (zp6 hi))) (fun i hi=>ih' i hi (no hp) rfl (inbL_get hbl.2 i hi) (hc' _ (zp6 hi))) hc hc'
 | nilfunc ℓ=>exact fun _ _ _ _ => .nilfunc ℓ
 | yield ℓ l hl=>intro S hp _ hb _;simp [AV.inb] at hb;rw [<-hp.β l hb];exact .yield ℓ l (Nat.lt_of_lt_of_le hb hp.nh)
 | map ℓ a ha=>intro S hp _ hb _;simp [AV.inb] at hb;rw [<-hp.β a hb];exact .map ℓ a (Nat.lt_of_lt_of_le hb hp.nh)
 | nilmap ℓ=>exact fun _ _ _ _ => .nilmap ℓ
 | lbox t cs vs e hO hw hs _ hc ih=>intro S _ _ _ hl;simp [AV.isLocal] at hl
 | place ℓ r off=>intro S _ _ _ hl;simp [AV.isLocal] at hl
 | mref ℓ a k lo n b off cap ha h1 h2 h3 h4=>intro S hp _ hb _;simp [AV.inb] at hb;exact .mref ℓ a k lo n b off cap (Nat.lt_of_lt_of_le hb hp.nh) h1 h2 h3 (fun h=>by rw [hp.β a hb];exact h4 h)
 | mcap ℓ a k lo n c b off cap ha h1 h2 h3 h4 h5=>intro S hp _ hb _;simp [AV.inb] at hb;exact .mcap ℓ a k lo n c b off cap (Nat.lt_of_lt_of_le hb hp.nh) h1 h2 h3 h4 (fun h=>by rw [hp.β a hb];exact h5 h)
 | gref ℓ a k p ha hc hq=>intro S hp _ hb _;simp [AV.inb] at hb;rw [<-hp.β _ hb,<-hp.β _ (by omega:a+1<_)] at hc;rw [<-hp.β _ hb,<-hp.β _ (by omega:a+1<_)];exact .gref ℓ a k p (Nat.lt_of_lt_of_le hb hp.nh) hc (fun h=>by rw [hp.β _ (by omega:a<_)];exact hq (by rw [<-hp.β _ (by omega:a+1<_)];exact h))
 | fresh ℓ k l v h=>exact fun hp hS _ _ => .fresh ℓ k l v (h.mono hp.K (fun b hO=>hp.O b ℓ 0 hS hO))
 | junk ℓ v h=>exact fun _ _ _ _ => .junk ℓ v h
 | eptr ℓ a k i j ha hi=>intro S hp _ hb _;simp [AV.inb] at hb;rw [<-hp.β a hb];exact .eptr ℓ a k i j (Nat.lt_of_lt_of_le hb hp.nh) hi
 | vptr ℓ a k i j m z ha hi hz hm=>intro S hp _ hb _;simp [AV.inb] at hb;rw [<-hp.β a hb];exact .vptr ℓ a k i j m z (Nat.lt_of_lt_of_le hb hp.nh) hi hz hm
 | agg ℓ cs vs hs _ hc hf ih =>
   intro S hp _ hbl _
   simp [AV.inb] at hbl
   exact .agg ℓ cs vs hs (fun i hi=>ih i hi (no hp) rfl (inbL_get hbl i hi) (AV.isLocal_of_isCell (hc _ (zp6 hi)))) hc hf
 | tuple ℓ cs vs hs _ hc ih =>
   intro S hp _ hbl _
   simp [AV.inb] at hbl
   exact .tuple ℓ cs vs hs (fun i hi=>ih i hi (no hp) rfl (inbL_get hbl i hi) (hc _ (zp6 hi))) hc
def Obj.okAt (m i:Nat) (ob:Obj):Prop:=ob.inb m=true /\ ∀ k l,ob = .gro k l->i+2<m
theorem RepObj.sub {G G':Gh} {w w':World} (hG:Sane G) {i m:Nat} {ob:Obj} (h:RepObj G w i ob) (hi:i<m) {S:Loc->Prop} (hp:Sub G G' w w' S m) (hS:S (.o i)) (hSc : ∀ j,S (.oc i j)) (hb:ob.okAt m i):RepObj G' w' i ob:=by
 obtain ⟨hb,hbg⟩:=hb
 cases ob with
 | cells cs =>
   obtain ⟨vs,e,h1,h2,h3,h4,h5⟩:=h
   obtain ⟨h6,h7⟩:=hp.O _ _ _ hS h1
   have hβ:=hp.β i hi
   rw [<-hβ] at h2 h6 h7
   exact ⟨vs,e,h6,h7.trans h2,h3,fun j hj=>(h4 j hj).sub hG hp (hSc j) (inbL_get hb j hj) (AV.isLocal_of_isCell (h5 _ (zp6 hj))),h5⟩
 | arr k l =>
   obtain ⟨vs,e,h1,h2,h3,h4,h8,h5⟩:=h
   obtain ⟨h6,h7⟩:=hp.O _ _ _ hS h1
   have hβ:=hp.β i hi
   rw [<-hβ] at h2 h6 h7
   exact ⟨vs,e,h6,h7.trans h2,h3,h4,h8,fun j hj=>(h5 j hj).mono hp.K⟩
 | map agg ks es =>
   obtain ⟨ms,clock,h1,h2,h3⟩:=h
   obtain ⟨h6,h7⟩:=hp.O _ _ _ hS h1
   have hβ:=hp.β i hi
   rw [<-hβ] at h2 h6 h7
   exact ⟨ms,clock,h6,h7.trans h2,h3.1.mono hp.K,h3.2⟩
 | loop L =>
   obtain ⟨fn,tmps,D,h1,h2,h3,h4,h5⟩:=h
   obtain ⟨h6,h7⟩:=hp.O _ _ _ hS h1
   have hβ:=hp.β i hi
   rw [<-hβ] at h2 h6 h7
   refine ⟨fn,tmps,D,h6,h7.trans h2,h3,fun t => ?_,h5⟩
   have hl:(eget L.env t).isLocal=false:=by
    have:=h5 t
    generalize eget L.env t=c at this
    cases c <;> first | rfl | (simp [AV.free] at this)
   exact (h4 t).sub hG (⟨hp.K,fun b ℓ f hr hO=>absurd (hr▸rfl) (hG.no b ℓ f hO),hp.β,hp.nh⟩:Sub G G' w w' (· = .no) m) rfl (inbL_eget hb t) hl
 | gro k l =>
   obtain ⟨g0,g1,g2,g3,g4⟩:=h
   have g0':=hbg k l rfl
   have b0:=hp.β i hi
   have b1:=hp.β (i+1) (by omega)
   have b2:=hp.β (i+2) g0'
   refine ⟨Nat.lt_of_lt_of_le g0' hp.nh,by rw [b2];exact g1,by rw [b1];exact g2,g3,fun hc => ?_⟩
   rw [b1] at hc
   obtain ⟨vs,e,h1,h2,h3,h8,h5⟩:=g4 hc
   obtain ⟨h6,h7⟩:=hp.O _ _ _ hS h1
   rw [<-b0] at h2 h6 h7
   exact ⟨vs,e,h6,h7.trans h2,by rw [b1];exact h3,h8,fun j hj=>(h5 j hj).mono hp.K⟩
 | dead=>trivial
def objsInb (m:Nat):List Obj->Bool
 | []=>true
 | o::r=>o.inb m&&(match o with | .gro .. => Nat.ble 2 r.length | _=>true)&&objsInb m r
def callable (P:Program) (f:FuncId):Bool :=
 match P.funcs[f]? with
 | some fn=>fn.name != "runtime.NumGoroutine" && fn.body.isSome
 | none=>false
def ACall (P:Program) (f:FuncId) (args:List AV) (H:List Obj) (r:AV) (H':List Obj):Prop :=
 callable P f=true/\r.isLocal=false/\r.inb H'.length=true/\objsInb H'.length H'=true/\H.length<=H'.length /\ ∀ (n:Nat) (G:Gh) (w:World) (vs:Array Value),vs.size=args.length->(∀ (i:Nat) (hi:i<args.length),RepV G w .no args[i] (vs.getD i Go.undef))->RelH G H w ->
  (∀ b ℓ f,G.O b=some (ℓ,f) -> ∃ i,ℓ.root = .o i) ->
  CallsIn (Wd none) n P f vs w (fun e w' => ∃ v G',e = .returned v/\RepV G' w' .ret r v/\RelH G' H' w'/\Ext H.length G w G' w')
def envOf:Nat->List AV->List (Nat×AV)
 | _,[]=>[]
 | i,v::r=>(i,v)::envOf (i+1) r
theorem eget_envOf : ∀ (args:List AV) (i t:Nat),eget (envOf i args) t=if i<=t/\t<i+args.length then args.getD (t-i) .undef else .undef
 | [],i,t=>by simp [envOf,eget]
 | v::r,i,t=>by
   simp only [envOf,eget,List.length_cons]
   by_cases h:i=t
   ·subst h;simp
   ·rw [if_neg h,eget_envOf r (i+1) t]
    by_cases h2:i+1<=t/\t<i+1+r.length
    ·rw [if_pos h2,if_pos (by omega),show t-i=(t-(i+1))+1 by omega];simp
    ·rw [if_neg h2,if_neg (by omega)]
def resOne (T:Types) (σ:St) (own:Bool):ResultVar->Option AV
 | .tmp t=>match σ.get t with
   | .lbox _ | .place .. | .fresh .. => none
   | .lim k l=>some (.d (.list k l))
   | .tail k l=>some (.d (.list k l))
   | v=>some (if own then v else v.copy)
 | .cell t ty=>match σ.get t,T ty with
   | .lbox cs,some td=>readAt td cs 0
   | .ptr i off,some td=>match σ.heap[i]? with
     | some (.cells cs)=>readAt td cs off
     | some (.arr _ l)=>if off=0/\td.isAgg=true/\l.length=td.size/\l.all D.isOne=true then some (.d (.agg l)) else none
     | _=>none
   | _,_=>none
def resAV (T:Types) (σ:St):List ResultVar->Option AV
 | [x]=>resOne T σ true x
 | l=>(l.mapM (resOne T σ false)).map .tuple
def FnPost (T:Types) (fn:Func) (m:Nat) (r:AV) (H':List Obj):Exit->St->Prop
 | .normal,σ | .ret,σ=>resAV T σ fn.results.toList=some r/\r.inb H'.length=true/\objsInb H'.length H'=true/\m<=H'.length /\ ∃ junk,σ.heap=H'++junk
 | _,_=>False
def objLoc (m:Nat):Loc->Bool
 | .o i | .oc i _=>decide (i<m)
 | _=>false
def Gh.handed (G:Gh) (m:Nat):Gh :=
 { K:=G.K,β:=G.β,nh:=m
   O:=fun b=>match G.O b with
    | some (ℓ,f)=>if objLoc m ℓ then some (ℓ,f) else none
    | none=>none }
theorem handed_O {G:Gh} {m b:Nat} {ℓ:Loc} {f:Nat} (h:(G.handed m).O b=some (ℓ,f)):G.O b=some (ℓ,f)/\objLoc m ℓ=true:=by
 simp only [Gh.handed] at h
 split at h
 ·split at h
  ·rename_i ℓ' f' hO hl;simp at h;obtain ⟨rfl,rfl⟩:=h;exact ⟨hO,hl⟩
  ·cases h
 ·cases h
theorem handed_none {G:Gh} {m b:Nat} (h : ∀ ℓ f,G.O b=some (ℓ,f)->objLoc m ℓ=false):(G.handed m).O b=none:=by
 simp only [Gh.handed]
 split
 ·rename_i ℓ f hO;rw [h ℓ f hO];rfl
 ·rfl
theorem objsInb_inb {m:Nat} : ∀ {H:List Obj},objsInb m H=true -> ∀ (i:Nat) (ob:Obj),H[i]?=some ob->ob.inb m=true
 | o::r,h,0,ob,e=>by simp only [objsInb,zp4] at h;simp at e;subst e;exact h.1.1
 | o::r,h,i+1,ob,e=>by simp only [objsInb,zp4] at h;exact objsInb_inb h.2 i ob (by simpa using e)
theorem objsInb_gro {m:Nat} : ∀ {H:List Obj},objsInb m H=true -> ∀ (i:Nat) (k:Nat) (l:List D),H[i]?=some (.gro k l)->i+2<H.length
 | o::r,h,0,k,l,e=>by simp at e;subst e;simp only [objsInb,zp4] at h;have:=Nat.le_of_ble_eq_true h.1.2;simp;omega
 | o::r,h,i+1,k,l,e=>by simp only [objsInb,zp4] at h;have:=objsInb_gro h.2 i k l (by simpa using e);simp;omega
theorem objsInb_get {m:Nat} {H:List Obj} (h:objsInb m H=true) (i:Nat) (ob:Obj) (e:H[i]?=some ob) (hl:H.length<=m:=by first | exact Nat.le_refl _ | (simp;done) | (simp;omega) | omega):ob.okAt m i :=
 ⟨objsInb_inb h i ob e,fun k l he=>Nat.lt_of_lt_of_le (objsInb_gro h i k l (by rw [e,he])) hl⟩
theorem RelH.handed {G:Gh} {H rest:List Obj} {w:World} (R:RelH G (H++rest) w) (hc:objsInb H.length H=true):RelH (G.handed H.length) H w:=by
 have hm:H.length<=G.nh:=by rw [<-R.nh];simp
 have hsub:Sub G (G.handed H.length) w w (fun ℓ=>objLoc H.length ℓ=true) H.length :=
  ⟨KLe.refl _,fun b ℓ f hl hO=>⟨by simp [Gh.handed,hO,hl],rfl⟩,fun _ _=>rfl,Nat.le_refl _⟩
 refine ⟨⟨fun b ℓ f h=>R.sane.no b ℓ f (handed_O h).1⟩,rfl,fun i ob hob => ?_,R.kept,fun b ℓ f h=>R.disj b ℓ f (handed_O h).1⟩
 have hi:i<H.length:=(zp2.1 hob).1
 exact (R.objs i ob (by rw [zp7 hi];exact hob)).sub R.sane hi hsub (by simp [objLoc,hi]) (fun j=>by simp [objLoc,hi]) (objsInb_get hc i ob hob)
def Gh.foreign (G:Gh) (m b:Nat):Bool :=
 match G.O b with
 | some (ℓ,_) => !objLoc m ℓ
 | none=>false
def Gh.back (G G3:Gh) (m k d q:Nat):Gh :=
 { K:=G3.K
   O:=fun b=>if G.foreign m b then G.O b else
    match G3.O b with
    | some (ℓ,f)=>if objLoc k ℓ then some (ℓ,f) else if ℓ = .ret then some (.s d,f) else none
    | none=>none
   β:=fun
    | .o i=>if i<k then G3.β (.o i) else G.β (.o i)
    | r=>G.β r
   nh:=k+q }
theorem back_O {G G3:Gh} {m k d q b:Nat} {ℓ:Loc} {f:Nat} (h:(G.back G3 m k d q).O b=some (ℓ,f)) :
  (G.foreign m b=true/\G.O b=some (ℓ,f))\/(G.foreign m b=false /\ ∃ ℓ',G3.O b=some (ℓ',f)/\((objLoc k ℓ'=true/\ℓ=ℓ')\/(ℓ' = .ret/\ℓ = .s d))):=by
 simp only [Gh.back] at h
 split at h
 ·rename_i hf;exact .inl ⟨hf,h⟩
 ·rename_i hf
  refine .inr ⟨by simpa using hf,?_⟩
  split at h
  ·rename_i ℓ' f' hO
   split at h
   ·rename_i hl;simp at h;obtain ⟨rfl,rfl⟩:=h;exact ⟨_,hO,.inl ⟨hl,rfl⟩⟩
   ·split at h
    ·rename_i hr;simp at h;obtain ⟨rfl,rfl⟩:=h;exact ⟨_,hO,.inr ⟨hr,rfl⟩⟩
    ·cases h
  ·cases h
theorem Rel.backO {G G3:Gh} {σ:St} {a:Act} {w w':World} (R:Rel G σ a w) {H rest H':List Obj} (hH:σ.heap=H++rest) (hr:rest=[]\/H'.length=H.length) (hHH:H.length<=H'.length)
  (R3:RelH G3 H' w') (hE:Ext H.length (G.handed H.length) w G3 w') (hin:objsInb H'.length H'=true) {d:Option Nat} {r:AV} {v:Value} (hv:RepV G3 w' .ret r v) (hrl:r.isLocal=false) (hri:r.inb H'.length=true)
  (hd : ∀ x,d=some x->x<σ.n/\(σ.get x).isBox=false) :
  Rel (G.back G3 H.length H'.length (d.getD 0) rest.length) { σ with env:=(match d with | some x=>eset σ.env x r | none=>σ.env),heap:=H'++rest } (a.put d v) w' /\
   ∀ m,m<=G.nh->Ext m G w (G.back G3 H.length H'.length (d.getD 0) rest.length) w':=by
 let Gf:=G.back G3 H.length H'.length (d.getD 0) rest.length
 have hnh:G.nh=H.length+rest.length:=by rw [<-R.h.nh,hH];simp

 have hfor : ∀ b ℓ f,G.O b=some (ℓ,f)->objLoc H.length ℓ=false->Gf.O b=some (ℓ,f)/\w'.heap[b]?=w.heap[b]?/\G3.O b=none:=by
  intro b ℓ f hO hl
  have hc:(G.handed H.length).O b=none:=handed_none fun ℓ' f' h'=>by rw [hO] at h';simp at h';obtain ⟨rfl,_⟩:=h';exact hl
  obtain ⟨h1,h2⟩:=hE.others b (R.h.disj b ℓ f hO).1 hc
  refine ⟨?_,h1,h2⟩
  have:G.foreign H.length b=true:=by simp [Gh.foreign,hO,hl]
  simp only [Gf,Gh.back,this,if_true,hO]

 have hback : ∀ b ℓ f,G3.O b=some (ℓ,f)->(objLoc H'.length ℓ=true->Gf.O b=some (ℓ,f))/\(ℓ = .ret->Gf.O b=some (.s (d.getD 0),f)):=by
  intro b ℓ f hO
  have hnf:G.foreign H.length b=false:=by
   cases hG:G.O b with
   | none=>simp [Gh.foreign,hG]
   | some p =>
     obtain ⟨ℓ',f'⟩:=p
     cases hl:objLoc H.length ℓ' with
     | true=>simp [Gh.foreign,hG,hl]
     | false=>rw [(hfor b ℓ' f' hG hl).2.2] at hO;cases hO
  constructor
  ·intro hl;simp only [Gf,Gh.back,hnf,hO];simp [hl]
  ·rintro rfl;simp only [Gf,Gh.back,hnf,hO];simp [objLoc]
 have hβ : ∀ i,i<G.nh->Gf.β (.o i)=G.β (.o i):=by
  intro i hi
  simp only [Gf,Gh.back]
  split
  ·rename_i hk
   rcases Nat.lt_or_ge i H.length with h | h
   ·exact hE.β i h
   ·rcases hr with rfl | hr
    ·simp at hnh;omega
    ·omega
  ·rfl
 have hp1:Pres G Gf w w' (fun ℓ=>objLoc H.length ℓ=false) :=
  ⟨hE.K,fun b ℓ f hl hO=>⟨(hfor b ℓ f hO hl).1,(hfor b ℓ f hO hl).2.1⟩,hβ,by simp only [Gf,Gh.back];omega⟩
 have hp2:Sub G3 Gf w' w' (fun ℓ=>objLoc H'.length ℓ=true) H'.length :=
  ⟨KLe.refl _,fun b ℓ f hl hO=>⟨(hback b ℓ f hO).1 hl,rfl⟩,fun i hi=>by simp [Gf,Gh.back,hi],by simp [Gf,Gh.back]⟩
 have hslots : ∀ t,RepV Gf w' (.s t) (σ.get t) (a.tmps.getD t Go.undef):=fun t=>(R.slots t).pres R.h.sane hp1 rfl (fun _ _ _=>rfl) (fun _ _ _=>⟨rfl,fun j=>rfl⟩)
 refine ⟨⟨⟨⟨fun b ℓ f h => ?_⟩,by simp [Gf,Gh.back],fun i ob hob => ?_,R3.kept,fun b ℓ f h => ?_⟩,by cases d <;> simpa [Act.put] using R.size,?_,?_,?_⟩,fun m hm => ?_⟩
 ·rcases back_O h with ⟨_,hO⟩ | ⟨_,ℓ',hO,⟨hl,rfl⟩ | ⟨rfl,rfl⟩⟩
  ·exact R.h.sane.no b ℓ f hO
  ·exact R3.sane.no b ℓ f hO
  ·simp [Loc.root]
 ·rcases Nat.lt_or_ge i H'.length with hi | hi
  ·simp only [zp7 hi] at hob
   exact (R3.objs i ob hob).sub R3.sane hi hp2 (by simp [objLoc,hi]) (fun j=>by simp [objLoc,hi]) (objsInb_get hin i ob hob)
  ·simp only [zp8 hi] at hob
   have hlen:H'.length=H.length:=by
    rcases hr with rfl | hr
    ·simp at hob
    ·exact hr
   have hob':σ.heap[i]?=some ob:=by rw [hH,zp8 (by omega),<-hlen];exact hob
   exact (R.h.objs i ob hob').pres R.h.sane (by rw [<-R.h.nh];exact (zp2.1 hob').1) hp1 (by simp [objLoc];omega) (fun j=>by simp [objLoc];omega)
 ·rcases back_O h with ⟨hf,hO⟩ | ⟨_,ℓ',hO,_⟩
  ·obtain ⟨h1,h2⟩:=R.h.disj b ℓ f hO
   refine ⟨Nat.lt_of_lt_of_le h1 hE.size,fun j hj => ?_⟩
   have hl:objLoc H.length ℓ=false:=by simpa [Gh.foreign,hO] using hf
   cases hK:Gf.K ⟨b,j,none⟩ with
   | none=>rfl
   | some x =>
     rcases hE.new ⟨b,j,none⟩ x hK with h3 | ⟨p,h3⟩ | h3
     ·rw [show (G.handed H.length).K=G.K from rfl,h2 j hj] at h3;cases h3
     ·obtain ⟨ℓ',f'⟩:=p
      obtain ⟨h4,h5⟩:=handed_O h3
      rw [hO] at h4;simp at h4;obtain ⟨rfl,_⟩:=h4
      rw [hl] at h5;cases h5
     ·simp at h3;omega
  ·exact R3.disj b ℓ' f hO
 ·intro t
  cases d with
  | none=>exact hslots t
  | some d =>
  obtain ⟨hlt,hb⟩:=hd d rfl
  have hd':d<a.tmps.size:=by rw [R.size];exact hlt
  simp only [Act.put,getD_set _ _ _ _ hd',St.get,eget_eset]
  split
  ·rename_i e;subst e
   by_cases hfree:r.free=true
   ·exact ((hv.anywhere hfree .no).sub R3.sane (⟨KLe.refl _,fun b ℓ f hl hO=>absurd (hl▸rfl) (R3.sane.no b ℓ f hO),hp2.β,hp2.nh⟩:Sub G3 Gf w' w' (fun ℓ=>ℓ = .no) H'.length) rfl hri hrl).anywhere hfree _
   ·cases r <;> first | (simp [AV.free] at hfree;done) | (simp [AV.isLocal] at hrl;done) | skip
    ·cases hv with | own _ k l v h ht =>
     refine .own _ _ _ _ h ?_
     intro a' n cap e hn
     obtain ⟨f,c,e',h1,h2,h3,h4⟩:=ht a' n cap e hn
     exact ⟨f,c,e',(hback _ _ _ h1).2 rfl,h2,h3,h4⟩
    ·cases hv with | lim _ k l v h ht =>
     exact .lim _ _ _ _ h ht
    ·cases hv with | tail _ k l v h ht =>
     refine .tail _ _ _ _ h ?_
     intro a' n cap e hn
     obtain ⟨f,c,e',h1,h2,h3,h4⟩:=ht a' n cap e hn
     exact ⟨f,c,e',(hback _ _ _ h1).2 rfl,h2,h3,h4⟩
    ·cases hv with | fresh _ k l v h =>
     exact .fresh _ _ _ _ (h.mono (KLe.refl _) (fun b hO=>⟨(hback _ _ _ hO).2 rfl,rfl⟩))
  ·exact hslots t
 ·intro t r' off ht
  cases d with
  | none=>exact R.places t r' off ht
  | some d =>
  obtain ⟨hlt,hb⟩:=hd d rfl
  simp only [St.get,eget_eset] at ht ⊢
  split at ht
  ·subst ht;simp [AV.isLocal] at hrl
  ·obtain ⟨cs,hcs⟩:=R.places t r' off ht
   refine ⟨cs,?_⟩
   split
   ·rename_i e;subst e;rw [hcs] at hb;simp [AV.isBox] at hb
   ·exact hcs
 ·have hdf:(a.put d v).defers=a.defers:=by cases d <;> rfl
  rw [hdf]
  refine ⟨R.df.1,fun x hx => ?_⟩
  obtain ⟨r0,h1,h2,h3⟩:=R.df.2 x hx
  obtain ⟨h4,h5,_⟩:=hfor _ _ _ h2 rfl
  exact ⟨r0,h1,h4,h5.trans h3⟩
 ·refine ⟨hE.K,fun x v hx => ?_,fun b hb hO => ?_,hE.size,fun i hi=>hβ i (by omega),hE.io⟩
  ·rcases hE.new x v hx with h | ⟨p,h⟩ | h
   ·exact .inl h
   ·obtain ⟨ℓ,f⟩:=p;exact .inr (.inl ⟨_,(handed_O h).1⟩)
   ·exact .inr (.inr h)
  ·have hc:(G.handed H.length).O b=none:=handed_none fun ℓ f h=>by rw [hO] at h;cases h
   obtain ⟨h1,h2⟩:=hE.others b hb hc
   refine ⟨h1,?_⟩
   have:G.foreign H.length b=false:=by simp [Gh.foreign,hO]
   simp [Gh.back,this,h2]
theorem Rel.back {G G3:Gh} {σ:St} {a:Act} {w w':World} (R:Rel G σ a w) {H rest H':List Obj} (hH:σ.heap=H++rest) (hr:rest=[]\/H'.length=H.length) (hHH:H.length<=H'.length)
  (R3:RelH G3 H' w') (hE:Ext H.length (G.handed H.length) w G3 w') (hin:objsInb H'.length H'=true) {d:Nat} {r:AV} {v:Value} (hv:RepV G3 w' .ret r v) (hrl:r.isLocal=false) (hri:r.inb H'.length=true)
  (hlt:d<σ.n) (hb:(σ.get d).isBox=false) :
  Rel (G.back G3 H.length H'.length d rest.length) { σ with env:=eset σ.env d r,heap:=H'++rest } (a.put (some d) v) w' /\
   ∀ m,m<=G.nh->Ext m G w (G.back G3 H.length H'.length d rest.length) w':=by
 have:=R.backO (d:=some d) hH hr hHH R3 hE hin hv hrl hri (fun x e=>by cases e;exact ⟨hlt,hb⟩)
 exact this
theorem callsIn_wd {r:Option Nat} {n:Nat} {P:Program} {f:FuncId} {args:Array Value} {w:World} {R:Ending->World->Prop} (h:CallsIn (Wd none) n P f args w R):CallsIn (Wd r) n P f args w R:=h
def callOf (T:Types) (σ:St) (o:Oper):Option (FuncId×List AV) :=
 match o.op with
 | .call { callee := .value x,args,argTypes } =>
   match (match x with | .func f=>some (f,[],[]) | .tmp t=>(match σ.get t with | .func f as bs=>some (f,as,bs) | _=>none) | _=>none),((args.toList.zip argTypes.toList).mapM fun p=>opv T σ.get p.2 p.1) with
   | some (f,as,bs),some vs=>if args.size=argTypes.size then some (f,as++vs.map AV.copy++bs) else none
   | _,_=>none
 | .call { callee := .invoke (.tmp t) name,args,argTypes } =>
   match σ.get t with
   | .d (.iface z) =>
     match T z.toNat with
     | some { u := .meth ms,.. } =>
       match mlook ms name,((args.toList.zip argTypes.toList).mapM fun p=>opv T σ.get p.2 p.1) with
       | some f,some vs=>if args.size=argTypes.size/\0<=z then some (f,[.d (.agg [])]++vs.map AV.copy) else none
       | _,_=>none
     | _=>none
   | _=>none
 | _=>none
theorem mapM_some {α β:Type} {f:α->Option β} : ∀ {xs:List α} {ys:List β},xs.mapM f=some ys->ys.length=xs.length /\ ∀ (i:Nat) (hi:i<xs.length) (hi':i<ys.length),f xs[i]=some ys[i]
 | [],ys,h=>by simp at h;subst h;exact ⟨rfl,fun i hi=>by simp at hi⟩
 | x::r,ys,h=>by
   simp only [List.mapM_cons,Option.bind_eq_bind,Option.bind_eq_some_iff,Option.pure_def,zp3] at h
   obtain ⟨v,hv,l',hl',rfl⟩:=h
   obtain ⟨e1,e2⟩:=mapM_some hl'
   refine ⟨by simp [e1],fun i hi hi' => ?_⟩
   cases i with
   | zero=>exact hv
   | succ i=>exact e2 i (by simpa using hi) (by simpa using hi')
theorem rep_append {G:Gh} {w:World} {A B:List AV} {va vb:Array Value} (ha:va.size=A.length) (hb:vb.size=B.length) (h1 : ∀ (i:Nat) (hi:i<A.length),RepV G w .no A[i] (va.getD i Go.undef))
  (h2 : ∀ (i:Nat) (hi:i<B.length),RepV G w .no B[i] (vb.getD i Go.undef)):(va++vb).size=(A++B).length /\ ∀ (i:Nat) (hi:i<(A++B).length),RepV G w .no (A++B)[i] ((va++vb).getD i Go.undef):=by
 refine ⟨by simp [ha,hb],fun i hi => ?_⟩
 simp at hi
 by_cases c:i<A.length
 ·rw [List.getElem_append_left c]
  simpa [zp5,Array.getElem?_append_left (show i<va.size by omega)] using h1 i c
 ·rw [List.getElem_append_right (by omega)]
  have:=h2 (i-A.length) (by omega)
  simpa [zp5,Array.getElem?_append_right (show va.size<=i by omega),ha] using this
theorem less_get (σ:St):Less σ.get σ:=fun _ => .inl rfl
section
variable {P:Program} {T:Types} {m:Nat} {Q:Exit->St->Prop} {σ:St} {ops:Array Oper} {o:Oper} {l:List Oper}
theorem callOf_ok (hT:TOk P T) {f:FuncId} {args:List AV} (h:callOf T σ o=some (f,args)) (hc:callable P f=true) {G:Gh} {a:Act} {w:World} (R:Rel G σ a w) :
  (∀ c,o.op ≠ .defer c) /\ ∃ vs:Array Value,(execOp a.eval o).run P w = .ok (.enter f vs) w/\vs.size=args.length /\ ∀ (i:Nat) (hi:i<args.length),RepV G w .no args[i] (vs.getD i Go.undef):=by
 unfold callOf at h
 split at h
 ·rename_i x xs ts hop
  refine ⟨by simp [hop],?_⟩
  split at h
  ·rename_i f' as bs vs hfn hvs
   split at h
   ·rename_i hsz
    simp at h
    obtain ⟨rfl,rfl⟩:=h
    obtain ⟨e1,e2⟩:=mapM_some hvs

    have hfv : ∃ va vb:Array Value,a.eval x = .func (.func f') va vb/\va.size=as.length/\vb.size=bs.length /\
      (∀ (i:Nat) (hi:i<as.length),RepV G w .no as[i] (va.getD i Go.undef)) /\ ∀ (i:Nat) (hi:i<bs.length),RepV G w .no bs[i] (vb.getD i Go.undef):=by
     cases x with
     | func q =>
       simp at hfn
       obtain ⟨rfl,rfl,rfl⟩:=hfn
       exact ⟨#[],#[],rfl,rfl,rfl,fun i hi=>by simp at hi,fun i hi=>by simp at hi⟩
     | tmp t =>
       simp only at hfn
       split at hfn
       ·rename_i f'' as' bs' hg
        simp at hfn
        obtain ⟨rfl,rfl,rfl⟩:=hfn
        have hrep:=R.slots t
        rw [hg] at hrep
        show ∃ va vb:Array Value,a.tmps.getD t Go.undef=_/\_
        generalize a.tmps.getD t Go.undef=v at hrep
        cases hrep with | func _ _ _ _ va vb ha hb h1 h2 _ _=>exact ⟨va,vb,rfl,ha,hb,h1,h2⟩
       ·cases hfn
     | _=>simp at hfn
    obtain ⟨va,vb,hx,ha,hb,h1,h2⟩:=hfv
    have hcall:(callFunc f' (va++xs.map a.eval++vb)).run P w = .ok (.enter f' (va++xs.map a.eval++vb)) w:=by
     unfold callable at hc
     unfold callFunc
     simp only [Sem.run_bind,run_program,Result.andThen_ok]
     split at hc
     ·rename_i fn hfn'
      simp at hc
      rw [hfn']
      simp [hc.1,Option.isSome_iff_ne_none.1 hc.2]
     ·cases hc
    have hlv:(xs.map a.eval).size=(vs.map AV.copy).length:=by simp [e1];omega
    have hmid : ∀ (i:Nat) (hi:i<(vs.map AV.copy).length),RepV G w .no (vs.map AV.copy)[i] ((xs.map a.eval).getD i Go.undef):=by
     intro i hi
     simp at hi
     have hz:i<(xs.toList.zip ts.toList).length:=by omega
     have:=(opv_ok (less_get σ) R (e2 i hz hi) .no).1.copy .no
     have hxs:i<xs.size:=by simp at hz;omega
     simpa [zp5,hxs] using this
    obtain ⟨k1,k2⟩:=rep_append ha hlv h1 hmid
    obtain ⟨k3,k4⟩:=rep_append k1 hb k2 h2
    have hrun:(execOp a.eval o).run P w = .ok (.enter f' (va++xs.map a.eval++vb)) w:=by
     simp only [execOp,hop,Sem.run_bind,resolve,hx,Deferred.ofValue,Sem.run_pure,Result.andThen_ok,invoke]
     exact hcall
    refine ⟨va++xs.map a.eval++vb,hrun,?_⟩
    rw [List.append_assoc] at k3 k4
    exact ⟨k3,k4⟩
   ·cases h
  ·cases h
 ·rename_i t name xs ts hop
  refine ⟨by simp [hop],?_⟩
  split at h
  ·rename_i z hg
   split at h
   ·rename_i sz ms zz hTz
    split at h
    ·rename_i f' vs hml hvs
     split at h
     ·rename_i hsz
      simp only [zp3,Prod.mk.injEq] at h
      obtain ⟨rfl,rfl⟩:=h
      obtain ⟨e1,e2⟩:=mapM_some hvs
      obtain ⟨hsz,hz0⟩:=hsz
      have hx:a.eval (.tmp t) = .iface z.toNat (.agg #[]):=by
       have hrep:=R.slots t
       rw [hg] at hrep
       show a.tmps.getD t Go.undef=_
       generalize a.tmps.getD t Go.undef=v at hrep
       cases hrep with | d _ _ _ hd =>
       cases hd with | iface z =>
       unfold ifaceV
       rw [if_neg (by omega)]
      have hcall:(callFunc f' (#[.agg #[]]++xs.map a.eval)).run P w = .ok (.enter f' (#[.agg #[]]++xs.map a.eval)) w:=by
       unfold callable at hc
       unfold callFunc
       simp only [Sem.run_bind,run_program,Result.andThen_ok]
       split at hc
       ·rename_i fn hfn'
        simp at hc
        rw [hfn']
        simp [hc.1,Option.isSome_iff_ne_none.1 hc.2]
       ·cases hc
      have hlv:(xs.map a.eval).size=(vs.map AV.copy).length:=by simp [e1];omega
      have hmid : ∀ (i:Nat) (hi:i<(vs.map AV.copy).length),RepV G w .no (vs.map AV.copy)[i] ((xs.map a.eval).getD i Go.undef):=by
       intro i hi
       simp at hi
       have hz:i<(xs.toList.zip ts.toList).length:=by omega
       have:=(opv_ok (less_get σ) R (e2 i hz hi) .no).1.copy .no
       have hxs:i<xs.size:=by simp at hz;omega
       simpa [zp5,hxs] using this
      have h0 : ∀ (i:Nat) (hi:i<[AV.d (.agg [])].length),RepV G w .no [AV.d (.agg [])][i] ((#[Value.agg #[]]:Array Value).getD i Go.undef):=by
       intro i hi
       match i,hi with
       | 0,_=>exact .d _ _ _ (.agg [] #[] rfl (fun i hi=>by simp at hi) (fun v hv=>by simp at hv))
      obtain ⟨k1,k2⟩:=rep_append (A:=[AV.d (.agg [])]) (va := #[Value.agg #[]]) rfl hlv h0 hmid
      refine ⟨#[.agg #[]]++xs.map a.eval,?_,k1,k2⟩
      have hmeth:=fun n=>hT.method hTz hml n w
      have hx2:(#[a.eval (.tmp t)]++xs.map a.eval)[0]?=some (.iface z.toNat (.agg #[])):=by rw [hx,Array.getElem?_append_left (by simp)];rfl
      have hx3:(#[a.eval (.tmp t)]++xs.map a.eval).extract 1 (#[a.eval (.tmp t)]++xs.map a.eval).size=xs.map a.eval:=by simp
      have hd : ∀ k,(Go.method (k+Made.depth) z.toNat (.agg #[]) name).run P w = .ok (f',.agg #[]) w:=fun k=>hmeth (k+Made.depth-1)
      simp only [execOp,hop,Sem.run_bind,resolve,Sem.run_pure,Result.andThen_ok,invoke,hx2,hx3,callMethod,run_program,hd]
      exact hcall
     ·cases h
    ·cases h
   ·cases h
  ·cases h
 ·cases h
theorem AOps.call (hT:TOk P T) {f:FuncId} {args:List AV} {H rest H':List Obj} {r:AV} {d:Nat} (hw:wantA ops.toList σ o=some true) (hcall:callOf T σ o=some (f,args)) (hH:σ.heap=H++rest)
  (hr:rest=[]\/H'.length=H.length) (hin:objsInb H.length H=true) (hargs:inbL H.length args=true) (hd:o.dst=some d) (hlt:d<σ.n) (hb:(σ.get d).isBox=false)
  (hfr:args.all AV.free=true) (hc:ACall P f args H r H') (h:AOps P m ops l Q { σ with env:=eset σ.env d r,heap:=H'++rest }):AOps P m ops (o::l) Q σ:=by
 intro rr n G a w Q' hm' R hQ
 unfold wpListIn
 rw [if_pos (wantA_ok hw R)]
 obtain ⟨hcb,hrl,hri,hin',hHH,hcc⟩:=hc
 obtain ⟨hnd,vs,hrun,hvs,hrep⟩:=callOf_ok hT hcall hcb R
 have RH:RelH G (H++rest) w:=by rw [<-hH];exact R.h
 have hRh:=RH.handed hin
 have hfr' : ∀ c∈args,c.free=true:=by simpa using hfr
 have hsub:Sub G (G.handed H.length) w w (fun ℓ=>ℓ = .no) H.length :=
  ⟨KLe.refl _,fun b ℓ f hl hO=>absurd (hl▸rfl) (R.h.sane.no b ℓ f hO),fun _ _=>rfl,Nat.le_refl _⟩
 refine ⟨fun _ _=>trivial,?_⟩
 rw [Oper.semAt_eq _ _ _ hnd,hrun]
 refine ⟨fun hh=>by simp [Wd] at hh,?_⟩
 refine CallsIn.mono (callsIn_wd (hcc (n-1) (G.handed H.length) w vs hvs (fun i hi => ?_) hRh (fun b ℓ f hO => ?_))) ?_
 ·exact (hrep i hi).sub R.h.sane hsub rfl (inbL_get hargs i hi) (AV.free_isLocal (hfr' _ (zp6 hi)))
 ·have:=(handed_O hO).2
  cases ℓ <;> simp [objLoc] at this
  ·rename_i i;exact ⟨i,rfl⟩
  ·rename_i i j;exact ⟨i,rfl⟩
 ·rintro e w' ⟨v,G3,rfl,hv,R3,hE⟩
  obtain ⟨R',hext⟩:=R.back hH hr hHH R3 hE hin' hv hrl hri hlt hb
  show wpListIn _ _ _ _ _ _ (a.put o.dst v) w'
  rw [hd]
  refine h rr n _ _ w' Q' ?_ R' (fun e a' w'' hp=>hQ e a' w'' (hp.ext (hext m hm')))
  have hnh:G.nh=H.length+rest.length:=by rw [<-R.h.nh,hH];simp
  simp [Gh.back];omega
end
def DfOnly (G:Gh) (w w':World):Prop:=w'.heap.size=w.heap.size/\(∀ b,G.O b≠some (.df,0)->w'.heap[b]?=w.heap[b]?)/\w'.os=w.os/\w'.output=w.output/\(∀ a,a.block<w.heap.size->w'.frozen? a=w.frozen? a)/\w'.tape=w.tape/\w.drawn<=w'.drawn
theorem leaves_marks {P:Program} {n:Nat} {fn:Func} {tmps:Array Value} {R:Ending->World->Prop} {G:Gh} : ∀ (ds:List Deferred) (w:World),RelF G ds w ->
  (∀ w',DfOnly G w w' -> ∃ v,(results fn tmps).run P w' = .ok v w'/\R (.returned v) w')->LeavesInM (Wd none) n P fn tmps R ds .returning w
 | [],w,_,h=>by
   obtain ⟨v,h1,h2⟩:=h w ⟨rfl,fun _ _=>rfl,rfl,rfl,fun _ _=>rfl,rfl,Nat.le_refl _⟩
   exact ⟨v,h1,h2⟩
 | d::ds,w,hF,h=>by
   obtain ⟨hnd,hall⟩:=hF
   obtain ⟨r,rfl,hO,hw⟩:=hall d (by simp)
   have hlt:r<w.heap.size:=(Array.getElem?_eq_some_iff.1 hw).1
   let w1:World:={ w with heap:=w.heap.setIfInBounds r (.deferred none) }
   have hother : ∀ b,b≠r->w1.heap[b]?=w.heap[b]?:=by
    intro b hb;show (w.heap.setIfInBounds r _)[b]?=_;rw [Array.getElem?_setIfInBounds_ne (Ne.symm hb)]
   have htake:(Instr.takeDeferred r).run P w = .ok [] w1:=by
    simp [Instr.takeDeferred,getObj,setObj,Sem.run,hw,w1]
   refine ⟨by simp,.inl ⟨r,w1,rfl,htake,?_⟩⟩
   simp at hnd
   refine leaves_marks (G:=G) ds w1 ⟨hnd.2,fun d hd => ?_⟩ ?_
   ·obtain ⟨r',rfl,h1,h2⟩:=hall d (by simp [hd])
    refine ⟨r',rfl,h1,?_⟩
    rw [hother r' ?_];exact h2
    rintro rfl
    exact hnd.1 _ hd rfl
   ·rintro w' ⟨hs,hb,hio1,hio2,hio3,hio4,hio5⟩
    refine h w' ⟨by rw [hs];simp [w1],fun b hne => ?_,hio1,hio2,fun a ha=>(hio3 a (by simpa [w1] using ha)).trans ?_,hio4,hio5⟩
    ·rw [hb b hne,hother b ?_]
     rintro rfl;exact hne hO
    ·by_cases hab:a.block=r
     ·unfold World.frozen?
      rw [hab,hw,show w1.heap[r]?=some (.deferred none) by simp [w1,hlt]]
     ·unfold World.frozen?
      rw [hother _ hab]
def resAct (tmps:Array Value):ResultVar->Sem Value
 | .tmp t=>pure (tmps.getD t Go.undef)
 | .cell a t=>do loadVar t (<-asAddr (tmps.getD a Go.undef))
theorem resOne_ok {P:Program} {T:Types} (hT:TOk P T) {G:Gh} {σ:St} {a:Act} {w:World} (R:Rel G σ a w) {own:Bool} {x:ResultVar} {av:AV} (h:resOne T σ own x=some av) :
  ∃ v,(resAct a.tmps x).run P w = .ok v w/\av.isLocal=false/\((av.free=true /\ ∀ ℓ,RepV G w ℓ av v) \/ ∃ t k l,own=true/\av = .own k l/\RepV G w (.s t) (.own k l) v):=by
 cases x with
 | tmp t =>
   simp only [resOne] at h
   have hrep:=R.slots t
   refine ⟨a.tmps.getD t Go.undef,by simp [resAct],?_⟩
   have key : ∀ v,σ.get t=v->v.isLocal=false->(∀ k l,v ≠ .lim k l)->(∀ k l,v ≠ .tail k l)->(∀ k l,v ≠ .fresh k l)->some (if own then v else v.copy)=some av->av.isLocal=false/\((av.free=true /\ ∀ ℓ,RepV G w ℓ av (a.tmps.getD t Go.undef)) \/ ∃ t' k l,own=true/\av = .own k l/\RepV G w (.s t') (.own k l) (a.tmps.getD t Go.undef)):=by
    intro v hv hl hnl hnt hnf he
    rw [hv] at hrep
    simp at he;subst he
    cases own with
    | false=>exact ⟨AV.copy_isLocal _,.inl ⟨AV.copy_free _,fun ℓ=>hrep.copy ℓ⟩⟩
    | true =>
      refine ⟨hl,?_⟩
      by_cases hf:v.free=true
      ·exact .inl ⟨hf,fun ℓ=>hrep.anywhere hf ℓ⟩
      ·cases v <;> first | (simp [AV.free] at hf;done) | (simp [AV.isLocal] at hl;done) | (exact absurd rfl (hnl _ _)) | (exact absurd rfl (hnt _ _)) | (exact absurd rfl (hnf _ _)) | skip
       exact .inr ⟨t,_,_,rfl,rfl,hrep⟩
   split at h
   ·cases h
   ·cases h
   ·cases h
   ·rename_i k l hgl
    cases h
    rw [hgl] at hrep
    exact ⟨rfl,.inl ⟨rfl,fun ℓ=>hrep.copy ℓ⟩⟩
   ·rename_i k l hgl
    cases h
    rw [hgl] at hrep
    exact ⟨rfl,.inl ⟨rfl,fun ℓ=>hrep.copy ℓ⟩⟩
   ·rename_i v h1 h2 h5 h3 h4
    refine key _ rfl ?_ (fun k l e=>h3 k l e) (fun k l e=>h4 k l e) (fun k l e=>h5 k l e) h
    generalize σ.get t=c at h1 h2
    cases c <;> first | rfl | (exact absurd rfl (h1 _)) | (exact absurd rfl (h2 _ _))
 | cell t ty =>
   simp only [resOne] at h
   split at h
   ·rename_i cs td hcs htd
    obtain ⟨vs,e,hO,hw,hs,hh,hc,hat⟩:=box_rep R hcs
    obtain ⟨v,hv,hfree,hrep⟩:=load_run hT htd R (A := .slot t 0 cs) (b:=G.β (.s t)) (off:=0) ⟨hcs,rfl⟩ h
    exact ⟨v,by simp [resAct,hat,asAddr,hv],AV.free_isLocal hfree,.inl ⟨hfree,hrep⟩⟩
   ·rename_i i off td hcs htd
    split at h
    ·rename_i cs hob
     have hsl:=R.slots t
     rw [hcs] at hsl
     generalize hat:a.tmps.getD t Go.undef=v0 at hsl
     cases hsl with | ptr _ _ _ hi =>
     obtain ⟨v,hv,hfree,hrep⟩:=load_run hT htd R (A := .obj i off) (b:=G.β (.o i)) (off:=off) ⟨hi,rfl⟩ ⟨_,cs,hob,rfl,h⟩
     exact ⟨v,by simp [resAct,hat,asAddr,hv],AV.free_isLocal hfree,.inl ⟨hfree,hrep⟩⟩
    ·rename_i k l hob
     split at h
     ·rename_i hc
      obtain ⟨rfl,hagg,hlen,hone⟩:=hc
      cases h
      have hsl:=R.slots t
      rw [hcs] at hsl
      generalize hat:a.tmps.getD t Go.undef=v0 at hsl
      cases hsl with | ptr _ _ _ hi =>
      have hfl:D.flat l=l:=flat_one (List.all_eq_true.1 hone)
      have hrd:readAt td ((D.flat l).map .d) 0=some (.d (.agg l)):=by
       have hdo : ∀ m:List D,dataOf (m.map .d)=some m:=by
        intro m
        induction m with
        | nil=>rfl
        | cons x r ih=>simp [dataOf,ih]
       unfold readAt cut
       rw [hfl,if_pos (by simp [hlen])]
       simp only [hagg,if_true]
       rw [show (l.map AV.d).drop 0=l.map AV.d from rfl,List.take_of_length_le (by simp [hlen])]
       unfold mkAgg
       rw [hdo]
      obtain ⟨v,hv,hfree,hrep⟩:=load_run hT htd R (A := .obj i 0) (b:=G.β (.o i)) (off:=0) ⟨hi,rfl⟩ ⟨_,_,hob,rfl,hrd⟩
      exact ⟨v,by simp [resAct,hat,asAddr,hv],AV.free_isLocal hfree,.inl ⟨hfree,hrep⟩⟩
     ·cases h
    ·cases h
   ·cases h
theorem results_eq (fn:Func) (tmps:Array Value):results fn tmps=(do
  let vs <-fn.results.mapM (resAct tmps)
  pure (if h:vs.size=1 then vs[0] else .tuple vs)):=by
 unfold results resAct
 rfl
theorem resL_ok {P:Program} {T:Types} (hT:TOk P T) {G:Gh} {σ:St} {a:Act} {w:World} (R:Rel G σ a w) : ∀ (l:List ResultVar) (avs:List AV),l.mapM (resOne T σ false)=some avs ->
  ∃ vs:List Value,(l.mapM (resAct a.tmps)).run P w = .ok vs w/\vs.length=l.length/\avs.length=l.length/\(∀ c∈avs,c.isLocal=false) /\ ∀ (i:Nat) (hi:i<avs.length),RepV G w .no avs[i] (vs.getD i Go.undef)
 | [],avs,h=>by simp at h;subst h;exact ⟨[],by simp,rfl,rfl,fun c hc=>by simp at hc,fun i hi=>by simp at hi⟩
 | x::r,avs,h=>by
   simp only [List.mapM_cons,Option.bind_eq_bind,Option.bind_eq_some_iff,Option.pure_def,zp3] at h
   obtain ⟨av,hav,l',hl',rfl⟩:=h
   obtain ⟨vs,h1,h2,h3,h4,h5⟩:=resL_ok hT R r l' hl'
   obtain ⟨v,e1,e2,e3⟩:=resOne_ok hT R hav
   refine ⟨v::vs,by simp [List.mapM_cons,e1,h1],by simp [h2],by simp [h3],?_,fun i hi => ?_⟩
   ·intro c hc
    rcases List.mem_cons.1 hc with rfl | hc
    ·exact e2
    ·exact h4 c hc
   ·cases i with
    | zero =>
      rcases e3 with ⟨_,e3⟩ | ⟨_,_,_,e,_⟩
      ·simpa using e3 .no
      ·cases e
    | succ i=>simpa using h5 i (by simpa using hi)
theorem ACall.leaveP {P:Program} {T:Types} (hT:TOk P T) {fn:Func} {H H':List Obj} {r:AV} (hrl:r.isLocal=false) (hri:r.inb H'.length=true) (hin:objsInb H'.length H'=true)
  {n:Nat} {G:Gh} {w:World} {e:Exit} {a':Act} {w':World} (hp:Post H.length G w (FnPost T fn H.length r H') e a' w') :
  (e = .normal\/e = .ret)/\LeavesInM (Wd none) n P fn a'.tmps (fun e w' => ∃ v G',e = .returned v/\RepV G' w' .ret r v/\RelH G' H' w'/\Ext H.length G w G' w') a'.defers .returning w':=by
 obtain ⟨σ',G',R',hE,hm,hq⟩:=hp

 have fin : ∀ (hq:resAV T σ' fn.results.toList=some r/\r.inb H'.length=true/\objsInb H'.length H'=true/\H.length<=H'.length /\ ∃ junk,σ'.heap=H'++junk),
   LeavesInM (Wd none) n P fn a'.tmps (fun e w' => ∃ v G',e = .returned v/\RepV G' w' .ret r v/\RelH G' H' w'/\Ext H.length G w G' w') a'.defers .returning w':=by
  rintro ⟨hres,_,_,_,junk,hjunk⟩
  refine leaves_marks (G:=G') _ _ R'.df ?_
  rintro wf ⟨hfs,hfb,hfio⟩
  have hpr:Pres G' G' w' wf (fun ℓ=>ℓ ≠ .df):=⟨KLe.refl _,fun b ℓ f hℓ hO=>⟨hO,hfb b (fun hf'=>by rw [hO] at hf';simp at hf';exact hℓ hf'.1)⟩,fun _ _=>rfl,Nat.le_refl _⟩
  have hkept : ∀ x v,G'.K x=some v->wf.cell? x=some v:=by
   intro x v hx
   have hc:=R'.h.kept x v hx
   have hne:G'.O x.block≠some (.df,0):=by
    intro hO
    have hsp:x.spot=none:=by
     unfold World.cell? at hc
     split at hc
     ·split at hc
      ·cases hc
      ·rename_i hsp;simpa using hsp
     ·cases hc
    have:=(R'.h.disj _ _ _ hO).2 x.off (Nat.zero_le _)
    obtain ⟨xb,xo,xs⟩:=x
    simp at hsp;subst hsp
    rw [this] at hx;cases hx
   unfold World.cell? at *
   rwa [hfb _ hne]
  have R2:Rel G' σ' { tmps:=a'.tmps,defers:=[] } wf:=by
   refine ⟨⟨R'.h.sane,R'.h.nh,fun i ob hob=>(R'.h.objs i ob hob).pres R'.h.sane (by rw [<-R'.h.nh];exact (zp2.1 hob).1) hpr (by simp) (by simp),hkept,fun b ℓ f hO=>by rw [hfs];exact R'.h.disj b ℓ f hO⟩,R'.size,
    fun t=>(R'.slots t).pres R'.h.sane hpr (by simp) (fun _ _ _=>rfl) (fun _ _ _=>⟨rfl,by simp⟩),R'.places,⟨by simp,fun d hd=>by simp at hd⟩⟩
  have hE2:Ext H.length G w G' wf:=by
   refine ⟨hE.K,hE.new,fun b hb hO' => ?_,by rw [hfs];exact hE.size,hE.β,hfio.1.trans hE.io.1,hfio.2.1.trans hE.io.2.1,fun a ha=>(hfio.2.2.1 a (Nat.lt_of_lt_of_le ha hE.size)).trans (hE.io.2.2.1 a ha),hfio.2.2.2.1.trans hE.io.2.2.2.1,Nat.le_trans hE.io.2.2.2.2 hfio.2.2.2.2⟩
   obtain ⟨h1,h2⟩:=hE.others b hb hO'
   exact ⟨(hfb b (fun hf=>by rw [h2] at hf;cases hf)).trans h1,h2⟩

  have cutG : ∀ (G2:Gh),RelH G2 σ'.heap wf->H'.length<=G2.nh->Ext H.length G w G2 wf->RelH { G2 with nh:=H'.length } H' wf/\Ext H.length G w { G2 with nh:=H'.length } wf /\
    ∀ ℓ v,RepV G2 wf ℓ r v->RepV { G2 with nh:=H'.length } wf ℓ r v:=by
   intro G2 RH2 hle hEE
   have hsub:Sub G2 { G2 with nh:=H'.length } wf wf (fun _=>True) H'.length:=⟨KLe.refl _,fun b ℓ f _ hO=>⟨hO,rfl⟩,fun _ _=>rfl,Nat.le_refl _⟩
   refine ⟨⟨⟨RH2.sane.no⟩,rfl,fun i ob hob => ?_,RH2.kept,RH2.disj⟩,⟨hEE.K,hEE.new,hEE.others,hEE.size,hEE.β,hEE.io⟩,fun ℓ v hv=>hv.sub RH2.sane hsub trivial hri hrl⟩
   have hi:i<H'.length:=(zp2.1 hob).1
   exact (RH2.objs i ob (by rw [hjunk,zp7 hi];exact hob)).sub RH2.sane hi hsub trivial (fun _=>trivial) (objsInb_get hin i ob hob)
  have hle:H'.length<=G'.nh:=by rw [<-R'.h.nh,hjunk];simp
  rw [results_eq]
  simp only [resAV] at hres
  split at hres
  ·rename_i x hx
   obtain ⟨v,h1,h2,h3⟩:=resOne_ok hT R2 hres
   have hrun:(do let vs <-fn.results.mapM (resAct a'.tmps);pure (if h:vs.size=1 then vs[0] else Value.tuple vs):Sem Value).run P wf = .ok v wf:=by
    have:fn.results = #[x]:=by cases hfr2:fn.results;simp_all
    rw [this]
    simp [h1]
   rcases h3 with ⟨hfree,h3⟩ | ⟨t,k,l,_,rfl,h3⟩
   ·obtain ⟨k1,k2,k3⟩:=cutG G' R2.h hle hE2
    exact ⟨v,hrun,v,_,rfl,k3 _ _ (h3 .ret),k1,k2⟩
   ·cases h3 with | own _ _ _ _ hr ht =>
    have hmv:=G'.move_pres wf (.s t) .ret
    have RHm:RelH (G'.move (.s t) .ret) σ'.heap wf:=R2.h.move _ _ (by simp [Loc.root]) (fun i ob hob=>(R2.h.objs i ob hob).pres R2.h.sane (by rw [<-R2.h.nh];exact (zp2.1 hob).1) hmv (by simp) (by simp))
    obtain ⟨k1,k2,k3⟩:=cutG (G'.move (.s t) .ret) RHm hle (hE2.trans (Ext.move _ _ _ _ _))
    exact ⟨v,hrun,v,_,rfl,k3 _ _ (.own _ _ _ _ hr ht.move),k1,k2⟩
  ·rename_i l hl
   simp at hres
   obtain ⟨avs,hav,rfl⟩:=hres
   obtain ⟨vs,h1,h2,h3,h4,h5⟩:=resL_ok hT R2 _ _ hav
   obtain ⟨k1,k2,k3⟩:=cutG G' R2.h hle hE2
   have hrun:(do let vs <-fn.results.mapM (resAct a'.tmps);pure (if h:vs.size=1 then vs[0] else Value.tuple vs):Sem Value).run P wf = .ok (.tuple vs.toArray) wf:=by
    have hne:vs.length≠1:=by
     intro h;rw [h2] at h
     obtain ⟨x,hx⟩:=List.length_eq_one_iff.1 h
     exact hl x hx
    simp [Array.mapM_eq_mapM_toList,h1,hne]
   exact ⟨.tuple vs.toArray,hrun,_,_,rfl,k3 _ _ (.tuple _ _ _ (by simp [h2,h3]) (fun i hi=>by simpa [List.getD,zp5] using h5 i hi) h4),k1,k2⟩
 cases e with
 | normal=>exact ⟨.inl rfl,fin hq⟩
 | ret=>exact ⟨.inr rfl,fin hq⟩
 | _=>exact hq.elim
theorem ACall.enterW {P:Program} {T:Types} (hT:TOk P T) {f:FuncId} {fn:Func} {c:Code} {args:List AV} {H H':List Obj} {r:AV} (hf:P.funcs[f]?=some fn) (hb:fn.body=some c) (hname:fn.name ≠ "runtime.NumGoroutine")
  (hn:args.length<=fn.ntmps) (hfr:args.all AV.free=true) (hrl:r.isLocal=false) (hri:r.inb H'.length=true) (hin:objsInb H'.length H'=true) (hHH:H.length<=H'.length)
  (n:Nat) (G:Gh) (w:World) (h : ∀ a,Rel G { env:=envOf 0 args,heap:=H,n:=fn.ntmps } a w->c.wpIn (Wd none) n P (Post H.length G w (FnPost T fn H.length r H')) a w)
  (vs:Array Value) (hvs:vs.size=args.length) (hrep : ∀ (i:Nat) (hi:i<args.length),RepV G w .no args[i] (vs.getD i Go.undef)) (RH:RelH G H w) :
  CallsIn (Wd none) n P f vs w (fun e w' => ∃ v G',e = .returned v/\RepV G' w' .ret r v/\RelH G' H' w'/\Ext H.length G w G' w'):=by
 have hfr' : ∀ c∈args,c.free=true:=by simpa using hfr
 refine callsIn_of_wp_marks hf hb trivial ?_ rfl
 have hsz:(vs++Array.replicate (fn.ntmps-vs.size) Go.undef).size=fn.ntmps:=by simp;omega
 have R:Rel G { env:=envOf 0 args,heap:=H,n:=fn.ntmps } { tmps:=vs++Array.replicate (fn.ntmps-vs.size) Go.undef,defers:=[] } w:=by
  refine ⟨RH,hsz,fun t => ?_,fun t r off ht => ?_,⟨by simp,fun d hd=>by simp at hd⟩⟩
  ·simp only [St.get,eget_envOf]
   split
   ·rename_i ht
    simp at ht
    have:=(hrep t (by omega)).anywhere (hfr' _ (zp6 (by omega))) (.s t)
    simpa [List.getD,show t<args.length by omega,zp5,Array.getElem?_append_left (show t<vs.size by omega)] using this
   ·exact .undef _ _
  ·simp only [St.get,eget_envOf] at ht
   split at ht
   ·rename_i hlt
    simp at hlt
    have:args[t]'(by omega)∈args:=zp6 _
    have h2:=hfr' _ this
    simp [List.getD,show t<args.length by omega] at ht
    rw [ht] at h2;simp [AV.free] at h2
   ·cases ht
 refine wpIn_mono (h _ R) ?_
 intro e a' w' hp
 obtain ⟨he,hl⟩:=ACall.leaveP (n:=n) hT hrl hri hin hp
 rcases he with rfl | rfl
 ·exact hl
 ·exact hl
theorem ACall.enterT {P:Program} {T:Types} (hT:TOk P T) {f:FuncId} {fn:Func} {c:Code} {args:List AV} {H H':List Obj} {r:AV} (hf:P.funcs[f]?=some fn) (hb:fn.body=some c) (hname:fn.name ≠ "runtime.NumGoroutine")
  (hn:args.length<=fn.ntmps) (hfr:args.all AV.free=true) (hrl:r.isLocal=false) (hri:r.inb H'.length=true) (hin:objsInb H'.length H'=true) (hHH:H.length<=H'.length)
  (h:AWpT P H.length c (FnPost T fn H.length r H') { env:=envOf 0 args,heap:=H,n:=fn.ntmps }):ACall P f args H r H' :=
 ⟨by simp [callable,hf,hb,hname],hrl,hri,hin,hHH,fun n G w vs hvs hrep RH _ =>
  ACall.enterW hT hf hb hname hn hfr hrl hri hin hHH n G w (fun a R=>h n G a w (by rw [RH.nh];exact Nat.le_refl _) R) vs hvs hrep RH⟩
theorem ACall.enter {P:Program} {T:Types} (hT:TOk P T) {f:FuncId} {fn:Func} {c:Code} {args:List AV} {H H':List Obj} {r:AV} (hf:P.funcs[f]?=some fn) (hb:fn.body=some c) (hname:fn.name ≠ "runtime.NumGoroutine")
  (hn:args.length<=fn.ntmps) (hfr:args.all AV.free=true) (hrl:r.isLocal=false) (hri:r.inb H'.length=true) (hin:objsInb H'.length H'=true) (hHH:H.length<=H'.length)
  (h:AWp P H.length c (FnPost T fn H.length r H') { env:=envOf 0 args,heap:=H,n:=fn.ntmps }):ACall P f args H r H' :=
 ACall.enterT hT hf hb hname hn hfr hrl hri hin hHH (AWpT.of h)
end Go.Am

namespace Go.Am
open Go
def callY (T:Types) (σ:St) (o:Oper):Option (Nat×List AV) :=
 match o.op with
 | .call { callee := .value (.tmp t),args,argTypes } =>
   match σ.get t,((args.toList.zip argTypes.toList).mapM fun p=>opv T σ.get p.2 p.1) with
   | .yield l,some vs=>if args.size=argTypes.size then some (l,vs.map AV.copy) else none
   | _,_=>none
 | _=>none
inductive Out where
 | done (σ:St)
 | yield (l:Nat) (args:List AV) (o:Oper) (rest:List Oper) (σ:St)
 | call (f:FuncId) (args:List AV) (o:Oper) (rest:List Oper) (σ:St)
 | stuck
def runP (A:Ar) (T:Types) (an:Ann) (all:List Oper):List Oper->St->Out
 | [],σ => .done σ
 | o::os,σ =>
   match wantA all σ o with
   | some true =>
     match callOf T σ o with
     | some (f,args) => .call f args o os σ
     | none =>
       match callY T σ o with
       | some (l,args) => .yield l args o os σ
       | none =>
         match evCore A T an σ.n σ.get σ.heap o with
         | some (ss,h)=>runP A T an all os (σ.upd ss h)
         | none => .stuck
   | some false =>
     match o.dst with
     | some d=>if decide (d<σ.n) && !(σ.get d).isBox then runP A T an all os (σ.upd [(d,.tuple [])] none) else .stuck
     | none=>runP A T an all os σ
   | none => .stuck
theorem upd_len {A:Ar} {T:Types} {an:Ann} {σ:St} {o:Oper} {ss:Sets} {h:Option (List Obj)} (he:evCore A T an σ.n σ.get σ.heap o=some (ss,h)):σ.heap.length<=(σ.upd ss h).heap.length:=by
 cases h with
 | none=>exact Nat.le_refl _
 | some H'=>exact evCore_len he
section
variable {P:Program} {T:Types} {m:Nat} {Q:Exit->St->Prop} {ops:Array Oper} {an:Ann}
def Resume (P:Program) (m:Nat) (ops:Array Oper) (T:Types) (Q:Exit->St->Prop):Out->Prop
 | .done σ=>Q .normal σ
 | .call f args o rest σ=>callOf T σ o=some (f,args)->wantA ops.toList σ o=some true->AOps P m ops (o::rest) Q σ
 | .yield l args o rest σ=>callY T σ o=some (l,args)->wantA ops.toList σ o=some true->AOps P m ops (o::rest) Q σ
 | .stuck=>False
theorem AOps.run (hT:TOk P T) : ∀ (l:List Oper) (σ:St),m<=σ.heap.length->Resume P m ops T (fun e σ'=>m<=σ'.heap.length->Q e σ') (runP Ar.std T an ops.toList l σ)->AOps P m ops l Q σ
 | [],σ,hm,h=>AOps.nil (h hm)
 | o::os,σ,hm,h=>by
   unfold runP at h
   cases hw:wantA ops.toList σ o with
   | none=>simp [hw,Resume] at h
   | some b =>
     cases b with
     | true =>
       simp only [hw] at h
       cases hc:callOf T σ o with
       | some p =>
         obtain ⟨f,args⟩:=p
         simp only [hc] at h
         have:=h hc hw
         intro r n G a w Q' hm' R hQ
         exact this r n G a w Q' hm' R (fun e a' w' hp=>by
          obtain ⟨σ',G',R',hE,hm'',hq⟩:=hp
          exact hQ e a' w' ⟨σ',G',R',hE,hm'',hq (by rw [R'.h.nh];exact hm'')⟩)
       | none =>
         simp only [hc] at h
         cases hy:callY T σ o with
         | some p =>
           obtain ⟨l,args⟩:=p
           simp only [hy] at h
           have:=h hy hw
           intro r n G a w Q' hm' R hQ
           exact this r n G a w Q' hm' R (fun e a' w' hp=>by
            obtain ⟨σ',G',R',hE,hm'',hq⟩:=hp
            exact hQ e a' w' ⟨σ',G',R',hE,hm'',hq (by rw [R'.h.nh];exact hm'')⟩)
         | none =>
         simp only [hy] at h
         cases he:evCore Ar.std T an σ.n σ.get σ.heap o with
         | none=>simp [he,Resume] at h
         | some q =>
           obtain ⟨ss,h'⟩:=q
           simp only [he] at h
           have hlen:=upd_len he
           exact AOps.step hw (evCore_ok hT (less_get σ) (fun _ _=>rfl) (fun _ _ h=>h) (fun _=>rfl) he) (by omega) (AOps.run hT os _ (by omega) h)
     | false =>
       simp only [hw] at h
       cases hd:o.dst with
       | none=>simp only [hd] at h;exact AOps.skip0 hw hd (AOps.run hT os σ hm h)
       | some d =>
         simp only [hd] at h
         split at h
         ·rename_i hc
          simp at hc
          exact AOps.skip hw hd hc.1 hc.2 (AOps.run hT os _ hm h)
         ·exact h.elim
theorem AOps.done (hT:TOk P T) {l:List Oper} {σ σ':St} (h : ∀ A:Ar,A=Ar.std->runP A T an ops.toList l σ = .done σ') (hm:m<=σ.heap.length) (hq:Q .normal σ'):AOps P m ops l Q σ :=
 AOps.run (an:=an) hT l σ hm (by rw [h _ rfl];exact fun _=>hq)
end
def AV.noPlace:AV->AV
 | .place .. => .undef
 | v=>v
def keepE (e:List (Nat×AV)):List Nat->List (Nat×AV)
 | []=>[]
 | t::r=>(t,(eget e t).noPlace)::keepE e r
def St.keep (σ:St) (ts:List Nat):St:={ σ with env:=keepE σ.env ts }
theorem eget_keepE (e:List (Nat×AV)) : ∀ (ts:List Nat) (t:Nat),eget (keepE e ts) t=(eget e t).noPlace\/eget (keepE e ts) t = .undef
 | [],t => .inr rfl
 | s::r,t=>by
   simp only [keepE,eget]
   split
   ·rename_i h;subst h;exact .inl rfl
   ·exact eget_keepE e r t
theorem Rel.keep {G:Gh} {σ:St} {a:Act} {w:World} (R:Rel G σ a w) (ts:List Nat):Rel G (σ.keep ts) a w:=by
 refine ⟨R.h,R.size,fun t => ?_,fun t r off ht => ?_,R.df⟩
 ·rcases eget_keepE σ.env ts t with h | h
  ·simp only [St.keep,St.get,h]
   have:=R.slots t
   simp only [St.get] at this
   generalize eget σ.env t=c at this
   cases c <;> first | exact this | exact .undef _ _
  ·simp only [St.keep,St.get,h];exact .undef _ _
 ·simp only [St.keep,St.get] at ht
  rcases eget_keepE σ.env ts t with h | h
  ·rw [h] at ht
   generalize eget σ.env t=c at ht
   cases c <;> simp [AV.noPlace] at ht
  ·rw [h] at ht;cases ht
section
variable {P:Program} {T:Types} {m:Nat} {Q:Exit->St->Prop} {σ:St}
theorem AWp.keep (ts:List Nat) {c:Code} (h:AWp P m c Q (σ.keep ts)):AWp P m c Q σ:=fun r n G a w hm R=>h r n G a w hm (R.keep ts)
def St.drop (σ:St) (k:Nat):St:={ σ with heap:=σ.heap.take k }
end
end Go.Am
