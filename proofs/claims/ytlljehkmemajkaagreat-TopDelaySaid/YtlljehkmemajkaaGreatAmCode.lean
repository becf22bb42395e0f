import Derived.Test.YtlljehkmemajkaaGreatAmArr
import Derived.TacticsIn
import Derived.RangeFuncLeaves
set_option linter.unusedSimpArgs false
set_option linter.unusedSectionVars false
set_option linter.unusedVariables false
namespace Go.Am
open Go
section
variable {P:Program} {T:a0i} (hT:TOk P T) {σ:St} {g:Nat->AV} {o:Oper} {ss:a1C} {h':Option (List Obj)} {H:List Obj} {an:Ann}
 (hg:Less g σ) (hgd : ∀ d,o.dst=some d->g d=σ.get d)
include hT hg hgd
theorem a7j {G:Gh} {a:Act} {w:World} (R:Rel G σ a w) {s i k:Nat} {lo n c:Int} (h:g s = .mcap i k lo n c) :
  ∃ b off cap,a.eval (.tmp s) = .slice (some ⟨b,off,none⟩) n.toNat cap/\i<G.nh/\0<=lo/\0<=n/\n<=c/\c<=(cap:Int)/\(0<c->b=G.β (.o i)/\off=lo.toNat*k):=by
 have:=hg.rep R s;rw [h] at this;generalize hv:a.tmps.getD s Go.undef=v at this;cases this with | mcap _ _ _ _ _ _ b off cap h1 h2 h3 h4 h5 h6=>exact ⟨b,off,cap,hv,h1,h2,h3,h4,h5,h6⟩
theorem b8b {t:TypeId} {s:Nat} {hi:Operand} (hop:o.op = .slice t (.tmp s) none (some hi) none) {a0 k:Nat} {lo ln:Int} (hs:g s = .mref a0 k lo ln) {es:Nat} {zh:Int}
  (hes:a0h T t=some es) (hbh:bound g T 0 (some hi)=some zh) (hk:es=k) (hz0:0<=zh) (hz1:zh<=ln) (hpos:0<ln) (h:put σ.n g o.dst (.mcap a0 k lo zh ln)=some (ss,h')):a0f P σ o ss h':=by
 obtain ⟨sz,e,z,td,ht,hte,rfl⟩:=a0l hes;subst hk;refine a0c hgd h (by simp [hop]) (AV.free_place rfl) ?_;intro G a w R;obtain ⟨b,off,cap,hv,hnh,hlo,hn,hcap,hbo⟩:=a1r hg R (x := .tmp s) hs;obtain ⟨nh,rfl⟩:=zp9 hz0;obtain ⟨rfl,rfl⟩:=hbo hpos;obtain ⟨kk,e1⟩:=a0D hg hbh R;have hrun:=a0J (P:=P) (w:=w) (len:=ln.toNat) (cap:=cap) (nl:=0) (nh:=nh) (m:=cap) (low:=none) (high:=some (a.eval hi)) (max:=none)
  (.inl ⟨rfl,rfl⟩) (.inr ⟨kk,by rw [e1]⟩) (.inl ⟨rfl,rfl⟩) (Nat.zero_le _) (by omega) (Nat.le_refl _)
 have hc0 : ¬ cap=0:=by omega
 refine ⟨_,by simp [execOp,hop,Instr.sliceAt,Instr.slice,Go.underlying,hT.slice ht,hv,hrun,hT.size hte,hc0];rfl,fun d => ?_⟩;have:=RepV.mcap (G:=G) (w:=w) (.s d) a0 td.size lo nh ln (G.β (.o a0)) (lo.toNat*td.size) cap hnh hlo (by omega) (by omega) (by omega) (fun _=>⟨rfl,rfl⟩);simpa [Addr.add_none] using this
theorem b5v {t:TypeId} {s:Nat} {lo hi mx:Operand} (hop:o.op = .slice t (.tmp s) (some lo) (some hi) (some mx)) {a0 k:Nat} {l0 ln:Int} (hs:g s = .mref a0 k l0 ln) {es:Nat} {zl zh zm:Int}
  (hes:a0h T t=some es) (hbl:bound g T 0 (some lo)=some zl) (hbh:bound g T 0 (some hi)=some zh) (hbm:bound g T 0 (some mx)=some zm) (hk:es=k) (hz0:0<=zl) (hz1:zl<=zh) (hz2:zh<=zm) (hz3:zm<=ln)
  (h:put σ.n g o.dst (.mref a0 k (l0+zl) (zh-zl))=some (ss,h')):a0f P σ o ss h':=by
 obtain ⟨sz,e,z,td,ht,hte,rfl⟩:=a0l hes;subst hk;refine a0c hgd h (by simp [hop]) (AV.free_place rfl) ?_;intro G a w R;obtain ⟨b,off,cap,hv,hnh,hlo,hn,hcap,hbo⟩:=a1r hg R (x := .tmp s) hs;obtain ⟨nl,rfl⟩:=zp9 hz0;obtain ⟨nh,rfl⟩:=zp9 (Int.le_trans hz0 hz1);obtain ⟨nm,rfl⟩:=zp9 (Int.le_trans (Int.le_trans hz0 hz1) hz2);obtain ⟨k1,e1⟩:=a0D hg hbl R;obtain ⟨k2,e2⟩:=a0D hg hbh R;obtain ⟨k3,e3⟩:=a0D hg hbm R;have hrun:=a0J (P:=P) (w:=w) (len:=ln.toNat) (cap:=cap) (nl:=nl) (nh:=nh) (m:=nm) (low:=some (a.eval lo)) (high:=some (a.eval hi)) (max:=some (a.eval mx))
  (.inr ⟨k1,by rw [e1]⟩) (.inr ⟨k2,by rw [e2]⟩) (.inr ⟨⟨k3,by rw [e3]⟩,rfl⟩) (by omega) (by omega) (by omega)
 refine ⟨_,by simp [execOp,hop,Instr.sliceAt,Instr.slice,Go.underlying,hT.slice ht,hv,hrun,hT.size hte];rfl,fun d => ?_⟩;have e4:((nh:Int)-(nl:Int)).toNat=nh-nl:=by omega
 by_cases hm:nm=nl
 ·rw [if_pos hm];have:=RepV.mref (G:=G) (w:=w) (.s d) a0 td.size (l0+nl) ((nh:Int)-nl) b off (nm-nl) hnh (by omega) (by omega) (by omega) (by omega)
  rwa [e4] at this
 rw [if_neg hm];have:=RepV.mref (G:=G) (w:=w) (.s d) a0 td.size (l0+nl) ((nh:Int)-nl) b (off+nl*td.size) (nm-nl) hnh (by omega) (by omega) (by omega) (fun hlt=>by
  obtain ⟨rfl,rfl⟩:=hbo (by omega);refine ⟨rfl,?_⟩;rw [<-Nat.add_mul];congr 1;omega)
 rw [e4] at this;simpa [Addr.add_none] using this
theorem b8c {t:TypeId} {s:Nat} {lo hi:Operand} (hop:o.op = .slice t (.tmp s) (some lo) (some hi) none) {a0 k:Nat} {l0 ln c:Int} (hs:g s = .mcap a0 k l0 ln c) {es:Nat} {zl zh:Int}
  (hes:a0h T t=some es) (hbl:bound g T 0 (some lo)=some zl) (hbh:bound g T 0 (some hi)=some zh) (hk:es=k) (hz0:0<=zl) (hz1:zl<=zh) (hz2:zh<=c)
  (h:put σ.n g o.dst (.mref a0 k (l0+zl) (zh-zl))=some (ss,h')):a0f P σ o ss h':=by
 obtain ⟨sz,e,z,td,ht,hte,rfl⟩:=a0l hes;subst hk;refine a0c hgd h (by simp [hop]) (AV.free_place rfl) ?_;intro G a w R;obtain ⟨b,off,cap,hv,hnh,hlo,hn,hnc,hcc,hbo⟩:=a7j hT hg hgd R hs;obtain ⟨nl,rfl⟩:=zp9 hz0;obtain ⟨nh,rfl⟩:=zp9 (Int.le_trans hz0 hz1);obtain ⟨k1,e1⟩:=a0D hg hbl R;obtain ⟨k2,e2⟩:=a0D hg hbh R;have hrun:=a0J (P:=P) (w:=w) (len:=ln.toNat) (cap:=cap) (nl:=nl) (nh:=nh) (m:=cap) (low:=some (a.eval lo)) (high:=some (a.eval hi)) (max:=none)
  (.inr ⟨k1,by rw [e1]⟩) (.inr ⟨k2,by rw [e2]⟩) (.inl ⟨rfl,rfl⟩) (by omega) (by omega) (Nat.le_refl _)
 refine ⟨_,by simp [execOp,hop,Instr.sliceAt,Instr.slice,Go.underlying,hT.slice ht,hv,hrun,hT.size hte];rfl,fun d => ?_⟩;have e4:((nh:Int)-(nl:Int)).toNat=nh-nl:=by omega
 by_cases hm:cap=nl
 ·rw [if_pos hm];have:=RepV.mref (G:=G) (w:=w) (.s d) a0 td.size (l0+nl) ((nh:Int)-nl) b off (cap-nl) hnh (by omega) (by omega) (by omega) (by omega)
  rwa [e4] at this
 rw [if_neg hm];have:=RepV.mref (G:=G) (w:=w) (.s d) a0 td.size (l0+nl) ((nh:Int)-nl) b (off+nl*td.size) (cap-nl) hnh (by omega) (by omega) (by omega) (fun hlt=>by
  obtain ⟨rfl,rfl⟩:=hbo (by omega);refine ⟨rfl,?_⟩;rw [<-Nat.add_mul];congr 1;omega)
 rw [e4] at this;simpa [Addr.add_none] using this
theorem c0k {t:TypeId} {s:Nat} (hop:o.op = .call { callee := .builtin .len,args := #[.tmp s],argTypes := #[t] }) {a0 k:Nat} {l0 ln c:Int} (hs:g s = .mcap a0 k l0 ln c)
  {sz e:Nat} {z:List AV} (ht:T t=some { size:=sz,u := .slice e,zero:=z }) (h:put σ.n g o.dst (.d (.int .i64 ln))=some (ss,h')):a0f P σ o ss h':=by
 refine a0c hgd h (by simp [hop]) (AV.free_place rfl) ?_;intro G a w R;obtain ⟨b,off,cap,hv,hnh,hlo,hn,hnc,hcc,hbo⟩:=a7j hT hg hgd R hs;refine ⟨.int .i64 ln,?_,fun d => .d _ _ _ (.int _ _)⟩;simp [execOp,hop,resolve,invoke,Go.builtin,Builtin.len_,Builtin.lenOf,hv,goInt,Go.underlying,hT.slice ht,Int.toNat_of_nonneg hn]
theorem b3f {s y:Nat} {t u:TypeId} (hop:o.op = .call { callee := .builtin .append,args := #[.tmp s,.tmp y],argTypes := #[t,u] }) {a0 k:Nat} {lo n1 c lo2 n2:Int} {l:List D}
  (hs:g s = .mcap a0 k lo n1 c) (hy:g y = .mref a0 k lo2 n2) (het:a0h T t=some k) (heu:a0h T u=some k) (hHi:σ.heap[a0]?=some (.arr k l)) (hk:0<k)
  (hc1:n1+n2<=c) (hc2:lo2+n2<=(l.length:Int)) (hc3:lo+(n1+n2)<=(l.length:Int)) {ss1:a1C} {h1:Option (List Obj)} (hp:put σ.n g o.dst (.mcap a0 k lo (n1+n2) c)=some (ss1,h1)) :
  a0f P σ o ss1 (some (σ.heap.set a0 (.arr k (Ar.std.spl l (lo+n1) (Ar.std.sub l lo2 (lo2+n2)))))):=by
 have hnd : ∀ c,o.op ≠ .defer c:=by simp [hop]
 obtain ⟨sz,e,zz,td,hTt,hTe,hks⟩:=a0l het;obtain ⟨sz1,e1,zz1,td1,hTt1,hTe1,hks1⟩:=a0l heu;obtain ⟨rfl,hcase⟩:=a0G hp;intro r n m G a w Q next hm R hn
 obtain ⟨b,off,cap,hv,hnh,hlo,hn0,hnc,hcc,hbo⟩:=a7j hT hg hgd R hs;obtain ⟨b2,off2,cap2,hv2,_,hlo2,hn2,hcap2,hbo2⟩:=a1r hg R (x := .tmp y) hy;obtain ⟨vs,ec,hO,hw,hu,hsz,hone,hh⟩:=R.h.objs a0 _ hHi;have hfl:=a0b hu;obtain ⟨LO,rfl⟩:=zp9 hlo;obtain ⟨N1,rfl⟩:=zp9 hn0;obtain ⟨L2,rfl⟩:=zp9 hlo2;obtain ⟨N2,rfl⟩:=zp9 hn2;have hsum:((N1:Int)+(N2:Int))=((N1+N2:Nat):Int):=by omega
 obtain ⟨l',hl'⟩ : ∃ l',Ar.std.spl l (((LO:Nat):Int)+((N1:Nat):Int)) (Ar.std.sub l (L2:Int) ((L2:Int)+(N2:Int)))=l':=⟨_,rfl⟩;rw [hl'] at hn;have hl'':l'=l.take (LO+N1)++(l.drop L2).take N2++l.drop (LO+N1+N2):=by
  rw [<-hl'];simp only [Ar.std];have e1:((L2:Int)+(N2:Int)).toNat-L2=N2:=by omega
  have e2:(((LO:Nat):Int)+((N1:Nat):Int)).toNat=LO+N1:=by omega
  have e3:((l.drop L2).take N2).length=N2:=by simp;omega
  simp only [Int.toNat_natCast,e1,e2,e3]
 have hdst' : ∀ (bb oo cc:Nat) (G':Gh) (w':World),Rel G' (σ.upd [] (some (σ.heap.set a0 (.arr k l')))) a w'->G'.nh=G.nh->(c<=(cc:Int))->(0<c->bb=G'.β (.o a0)/\oo=LO*k) ->
   Rel G' (σ.upd ss1 (some (σ.heap.set a0 (.arr k l')))) (a.put o.dst (.slice (some ⟨bb,oo,none⟩) (N1+N2) cc)) w':=by
  intro bb oo cc G' w' R' hnh' hcap' hb';rcases hcase with ⟨hd,rfl⟩ | ⟨d,hd,rfl,hlt,hbx⟩
  ·rw [hd];simpa [Act.put,St.upd,a0r] using R'
  rw [hd];have hrep:RepV G' w' (.s d) (.mcap a0 k (LO:Int) ((N1:Int)+(N2:Int)) c) (.slice (some ⟨bb,oo,none⟩) (N1+N2) cc):=by
   have:=RepV.mcap (G:=G') (w:=w') (.s d) a0 k (LO:Int) ((N1:Int)+(N2:Int)) c bb oo cc (by rw [hnh'];exact hnh) (by omega) (by omega) hc1 hcap' (fun hlt=>by
    obtain ⟨q1,q2⟩:=hb' hlt;exact ⟨q1,by rw [q2];simp⟩)
   have e:((N1:Int)+(N2:Int)).toNat=N1+N2:=by omega
   rwa [e] at this
  have:=R'.put (d:=d) hrep (fun r off e=>by cases e) (by rw [hgd d hd] at hbx;exact hbx) hlt;simpa [St.upd,a0r] using this
 have hcapN:N1+N2<=cap:=by omega
 simp only [Int.toNat_natCast] at hv hv2;by_cases hz:N2=0
 ·subst hz;have hll:l'=l:=by rw [hl''];simp
  have hset:σ.heap.set a0 (.arr k l')=σ.heap:=by
   rw [hll];apply List.ext_getElem?;intro i;by_cases hi:a0=i
   ·subst hi;rw [List.getElem?_set_self (zp2.1 hHi).1,hHi]
   rw [List.getElem?_set_ne hi]
  have hrun:(execOp a.eval o).run P w = .ok (.value (.slice (some ⟨b,off,none⟩) N1 cap)) w:=by
   have hcap':N1<=cap:=by omega
   simp [execOp,hop,resolve,invoke,Go.builtin,Builtin.append_,hv,hv2,Go.underlying,hT.slice hTt,hT.slice hTt1,hT.size hTe,Builtin.lenOf,hks,hcap',Builtin.firstCells,loadCells,loadCellsFrom,storeCells]
  refine a0y hnd hrun (hn G _ _ (hdst' b off cap G w ?_ rfl hcc (fun hlt => ?_)) (Ext.refl _ _ _))
  ·rw [hset];simpa [St.upd,a0r] using R
  obtain ⟨q1,q2⟩:=hbo hlt;exact ⟨q1,by rw [q2];simp⟩
 obtain ⟨rfl,rfl⟩:=hbo (by omega);obtain ⟨rfl,rfl⟩:=hbo2 (by omega);simp only [Int.toNat_natCast] at hv hv2;have hmul:L2*k+N2*k<=l.length*k:=by rw [<-Nat.add_mul];exact Nat.mul_le_mul_right _ (by omega)
 have hmul1:(LO+N1)*k+N2*k<=l.length*k:=by rw [<-Nat.add_mul];exact Nat.mul_le_mul_right _ (by omega)
 let zs:List Value:=(List.range (N2*k)).map fun j=>vs.getD (L2*k+j) Go.undef;have hzl:zs.length=N2*k:=by simp [zs]
 have hzg : ∀ q,q<N2*k->zs.getD q Go.undef=vs.getD (L2*k+q) Go.undef:=by
  intro q hq;simp [zs,List.getD,hq]
 have hld:=run_loadCells (P:=P) w ⟨G.β (.o a0),L2*k,none⟩ (N2*k) (fun j=>vs.getD (L2*k+j) Go.undef) (fun j hj=>by
  rw [Addr.add_none];exact a0V hw (by omega))
 have hst:=run_storeCells_at P (G.β (.o a0)) (LO*k+N1*k) ec zs 0 vs w hw (by rw [<-Nat.add_mul];omega) (fun v hv=>by
  obtain ⟨q,hq,rfl⟩:=List.mem_iff_getElem.1 hv;have hq':q<N2*k:=by omega
  have:=hzg q hq';rw [List.getD_eq_getElem?_getD,zp1 hq] at this;simp only [Option.getD_some] at this;rw [this];exact hone _ (by omega))
 simp only [Nat.add_zero] at hst;have hrun:(execOp a.eval o).run P w = .ok (.value (.slice (some ⟨G.β (.o a0),LO*k,none⟩) (N1+N2) cap)) (w.setRow (G.β (.o a0)) (rowOf vs (LO*k+N1*k) zs)):=by
  have hfc:(Builtin.firstCells k N2 (.slice (some ⟨G.β (.o a0),L2*k,none⟩) N2 cap2)).run P w = .ok zs.toArray w:=by
   simp [Builtin.firstCells,hld,zs]
  simp [execOp,hop,resolve,invoke,Go.builtin,Builtin.append_,hv,hv2,Go.underlying,hT.slice hTt,hT.slice hTt1,hT.size hTe,Builtin.lenOf,hks,hfc,hcapN,Addr.add_none,hst,rowOf]
 have huf:a0k k l':=by
  intro x hx;rw [hl''] at hx;simp only [List.mem_append] at hx;rcases hx with (hx | hx) | hx
  ·exact hu x (List.mem_of_mem_take hx)
  ·exact hu x (List.mem_of_mem_drop (List.mem_of_mem_take hx))
  exact hu x (List.mem_of_mem_drop hx)
 have hll:l'.length=l.length:=by rw [hl''];simp;omega
 have hff:(D.flat l').length=(D.flat l).length:=by rw [a0b huf,a0b hu,hll]
 have hflat:D.flat l'=(D.flat l).take ((LO+N1)*k)++((D.flat l).drop (L2*k)).take (N2*k)++(D.flat l).drop ((LO+N1+N2)*k):=by
  rw [hl'',a0C,a0C,a1g hu,a1Q hu,a1g (fun x hx=>hu x (List.mem_of_mem_drop hx)),a1Q hu]
 have hrs:(LO*k+N1*k)+zs.length<=vs.size:=by rw [hzl,<-Nat.add_mul];omega
 have hget : ∀ q,q<(D.flat l').length -> ∃ q',q'<(D.flat l).length/\(D.flat l')[q]?=(D.flat l)[q']?/\(rowOf vs (LO*k+N1*k) zs).getD q Go.undef=vs.getD q' Go.undef:=by
  intro q hq;rw [a1x hrs,hzl,<-Nat.add_mul,hflat];have hlen1:((D.flat l).take ((LO+N1)*k)).length=(LO+N1)*k:=by simp;omega
  have hlen2:(((D.flat l).drop (L2*k)).take (N2*k)).length=N2*k:=by simp;omega
  have e3:(LO+N1+N2)*k=(LO+N1)*k+N2*k:=Nat.add_mul _ _ _;by_cases c1:q<(LO+N1)*k
  ·refine ⟨q,by omega,?_,by rw [if_pos c1]⟩;rw [List.append_assoc,zp7 (by omega),List.getElem?_take_of_lt c1]
  by_cases c2:q<(LO+N1)*k+N2*k
  ·refine ⟨L2*k+(q-(LO+N1)*k),by omega,?_,by rw [if_neg c1,if_pos c2,hzg _ (by omega)]⟩;rw [List.append_assoc,zp8 (by omega),hlen1,zp7 (by omega),List.getElem?_take_of_lt (by omega),List.getElem?_drop]
  refine ⟨q,by omega,?_,by rw [if_neg c1,if_neg c2]⟩;rw [zp8 (by simp;omega),List.getElem?_drop];congr 1;simp only [List.length_append,hlen1,hlen2];omega
 have each : ∀ (q:Nat) (hq:q<(D.flat l').length),RepD G.K (D.flat l')[q] ((rowOf vs (LO*k+N1*k) zs).getD q Go.undef)/\((rowOf vs (LO*k+N1*k) zs).getD q Go.undef).oneCell'=true:=by
  intro q hq;obtain ⟨q',h1,h2,h3⟩:=hget q hq;rw [zp1 hq,zp1 h1] at h2;rw [h3,Option.some.inj h2];exact ⟨hh q' h1,hone q' h1⟩
 obtain ⟨hcore,hext⟩:=a1B R hHi hw (l':=l') (row:=rowOf vs (LO*k+N1*k) zs) huf (by rw [a0X hrs];omega) (fun q hq=>(each q hq).2) (fun q hq=>(each q hq).1);exact a0y hnd hrun (hn G _ _ (hdst' _ _ cap G _ hcore rfl hcc (fun _=>⟨rfl,rfl⟩)) (hext m))
theorem c0l {t:TypeId} {s:Nat} (hop:o.op = .slice t (.tmp s) none none none) {a0:Nat} (hs:g s = .ptr a0 0) {sz m e:Nat} {z:List AV} {td:TD}
  (ht:T t=some { size:=sz,u := .array m e,zero:=z }) (hte:T e=some td) (h:put σ.n g o.dst (.mref a0 td.size 0 (Int.ofNat m))=some (ss,h')):a0f P σ o ss h':=by
 refine a0c hgd h (by simp [hop]) (AV.free_place rfl) ?_;intro G a w R;have hv0:=hg.rep R s;rw [hs] at hv0;generalize hv:a.tmps.getD s Go.undef=v at hv0;have hev:a.eval (.tmp s)=v:=hv;cases hv0 with | ptr _ _ _ hnh =>
 refine ⟨.slice (some ⟨G.β (.o a0),0,none⟩) m m,?_,fun d => ?_⟩
 ·simp [execOp,hop,hev,Instr.sliceAt,Go.underlying,hT.array ht,Instr.sureAddr,Instr.sliceBounds,hT.size hte]
  try (intro;rfl)
 have:=RepV.mref (G:=G) (w:=w) (.s d) a0 td.size 0 (Int.ofNat m) (G.β (.o a0)) 0 m hnh (by omega) (by simp) (by simp) (fun _=>⟨rfl,by simp⟩);simpa using this
theorem b8d {s:Nat} {y:Operand} {t u:TypeId} (hop:o.op = .call { callee := .builtin .copy,args := #[.tmp s,y],argTypes := #[t,u] }) {a0 k:Nat} {lo n1:Int} {l ys:List D}
  (hs:g s = .mref a0 k lo n1) (hy:a2B T g u y=some (k,ys)) (het:a0h T t=some k) (hHi:σ.heap[a0]?=some (.arr 1 l)) (hk:0<k)
  (hc1:(ys.length:Int)<=n1) (hc2:(lo+n1)*(k:Int)<=(l.length:Int)) {ss1:a1C} {h1:Option (List Obj)} (hp:put σ.n g o.dst (.d (.int .i64 (ys.length:Int)))=some (ss1,h1)) :
  a0f P σ o ss1 (some (σ.heap.set a0 (.arr 1 (Ar.std.spl l (lo*(k:Int)) (D.flat ys))))):=by
 have hnd : ∀ c,o.op ≠ .defer c:=by simp [hop]
 obtain ⟨sz,e,zz,td,hTt,hTe,hks⟩:=a0l het;obtain ⟨rfl,hcase⟩:=a0G hp;intro r n m G a w Q next hm R hn
 obtain ⟨b,off,cap,hv,hnh,hlo,hn0,hnc,hbo⟩:=a1r hg R (x := .tmp s) hs;have hrepY:=a2M hg hy R;obtain ⟨vs,ec,hO,hw,hu,hsz,hone,hh⟩:=R.h.objs a0 _ hHi;have hfl:=a0b hu;obtain ⟨arrY,f1,f2,f3,f4⟩:=a1c (P:=P) (fun x v hx=>R.h.kept x v hx) hrepY;have hyl : ∃ by' cy,a.eval y = .slice by' ys.length cy:=by
  rcases hrepY.slice with ⟨rfl,oa,hv⟩ | ⟨b,off,cap,hv⟩
  ·exact ⟨_,_,hv⟩
  exact ⟨_,_,hv⟩
 obtain ⟨by',cy,hyv⟩:=hyl;have hfy:=a0b f3;obtain ⟨LO,rfl⟩:=zp9 hlo;obtain ⟨N1,rfl⟩:=zp9 hn0;have hone1 : ∀ x∈D.flat ys,x.isOne=true:=by
  intro x hx;obtain ⟨q,hq,rfl⟩:=List.mem_iff_getElem.1 hx;exact a2e (f4 q hq).1 (f4 q hq).2
 have hff1:D.flat (D.flat ys)=D.flat ys:=a5k hone1;have hb2:(LO+N1)*k<=l.length:=by
  have:(((LO+N1)*k:Nat):Int)<=(l.length:Int):=by simpa using hc2
  omega
 have hb3:ys.length*k<=N1*k:=Nat.mul_le_mul_right _ (by omega);rw [Nat.add_mul] at hb2;obtain ⟨l',hl'⟩ : ∃ l',Ar.std.spl l (((LO:Nat):Int)*(k:Int)) (D.flat ys)=l':=⟨_,rfl⟩;rw [hl'] at hn;have hl'':l'=l.take (LO*k)++D.flat ys++l.drop (LO*k+ys.length*k):=by
  rw [<-hl'];have e2:(((LO:Nat):Int)*(k:Int)).toNat=LO*k:=by
   rw [<-Int.natCast_mul,Int.toNat_natCast]
  simp only [Ar.std,e2,hfy]
 have hdst' : ∀ (w':World),Rel G (σ.upd [] (some (σ.heap.set a0 (.arr 1 l')))) a w' ->
   Rel G (σ.upd ss1 (some (σ.heap.set a0 (.arr 1 l')))) (a.put o.dst (.int .i64 (ys.length:Int))) w':=by
  intro w' R';rcases hcase with ⟨hd,rfl⟩ | ⟨d,hd,rfl,hlt,hbx⟩
  ·rw [hd];simpa [Act.put,St.upd,a0r] using R'
  rw [hd];have hrep:RepV G w' (.s d) (.d (.int .i64 (ys.length:Int))) (.int .i64 (ys.length:Int)) := .d _ _ _ (.int _ _);have:=R'.put (d:=d) hrep (fun r off e=>by cases e) (by rw [hgd d hd] at hbx;exact hbx) hlt;simpa [St.upd,a0r] using this
 have hmin:Nat.min ys.length N1=ys.length:=Nat.min_eq_left (by omega);have hmin':min ys.length N1=ys.length:=hmin;simp only [Int.toNat_natCast] at hv hbo;by_cases hz:ys=[]
 ·subst hz;have hll:l'=l:=by rw [hl''];simp [D.flat]
  have hset:σ.heap.set a0 (.arr 1 l')=σ.heap:=by
   rw [hll];apply List.ext_getElem?;intro i;by_cases hi:a0=i
   ·subst hi;rw [List.getElem?_set_self (zp2.1 hHi).1,hHi]
   rw [List.getElem?_set_ne hi]
  have ha0:arrY = #[]:=Array.eq_empty_of_size_eq_zero (by simpa [D.flat] using f2);subst ha0;rw [hyv] at f1;simp only [List.length_nil] at f1 hyv;have hrun:(execOp a.eval o).run P w = .ok (.value (.int .i64 0)) w:=by
   simp [execOp,hop,resolve,invoke,Go.builtin,Builtin.copy_,hv,hyv,Go.underlying,hT.slice hTt,hT.size hTe,Builtin.lenOf,hks,f1,storeCells,goInt]
  have:=hdst' w (by rw [hset];simpa [St.upd,a0r] using R);refine a0y hnd hrun (hn G _ _ this (Ext.refl _ _ _))
 have hyp:0<ys.length:=List.length_pos_iff.2 hz;obtain ⟨rfl,rfl⟩:=hbo (by omega);rw [hyv] at f1;have hst:=run_storeCells_at P (G.β (.o a0)) (LO*k) ec arrY.toList 0 vs w hw (by simp only [Array.length_toList,f2,hfy];omega) (fun v hv=>by
  obtain ⟨q,hq,rfl⟩:=List.mem_iff_getElem.1 hv;have hq':q<(D.flat ys).length:=by simpa [f2] using hq
  have:=(f4 q hq').2;simpa [zp5,show q<arrY.size by omega] using this)
 simp only [Nat.add_zero] at hst;have hrun:(execOp a.eval o).run P w = .ok (.value (.int .i64 (ys.length:Int))) (w.setRow (G.β (.o a0)) (rowOf vs (LO*k) arrY.toList)):=by
  simp [execOp,hop,resolve,invoke,Go.builtin,Builtin.copy_,hv,hyv,Go.underlying,hT.slice hTt,hT.size hTe,Builtin.lenOf,hks,hmin,hmin',f1,hst,rowOf,goInt]
 have huf:a0k 1 l':=by
  intro x hx;rw [hl''] at hx;simp only [List.mem_append] at hx;rcases hx with (hx | hx) | hx
  ·exact hu x (List.mem_of_mem_take hx)
  ·exact a5H hone1 x hx
  exact hu x (List.mem_of_mem_drop hx)
 have hll:l'.length=l.length:=by rw [hl''];simp only [List.length_append,List.length_take,List.length_drop,hfy];omega
 have hflat:D.flat l'=(D.flat l).take (LO*k)++D.flat ys++(D.flat l).drop (LO*k+ys.length*k):=by
  have e1:=a1g hu (n:=LO*k);have e2:=a1Q hu (n:=LO*k+ys.length*k);rw [hl'',a0C,a0C,hff1,e1,e2];simp only [Nat.mul_one]
 have hrs:LO*k+arrY.toList.length<=vs.size:=by simp only [Array.length_toList,f2,hfy];omega
 have hfl':(D.flat l').length=(D.flat l).length:=by rw [a0b huf,a0b hu,hll]
 have each : ∀ (q:Nat) (hq:q<(D.flat l').length),RepD G.K (D.flat l')[q] ((rowOf vs (LO*k) arrY.toList).getD q Go.undef)/\((rowOf vs (LO*k) arrY.toList).getD q Go.undef).oneCell'=true:=by
  intro q hq;rw [a1x hrs];have hlen1:((D.flat l).take (LO*k)).length=LO*k:=by simp;omega
  have hal:arrY.toList.length=ys.length*k:=by simp [f2,hfy]
  rw [hal];have key : ∀ (d:D),(D.flat l')[q]?=some d->RepD G.K d (if q<LO*k then vs.getD q Go.undef else if q<LO*k+ys.length*k then arrY.toList.getD (q-LO*k) Go.undef else vs.getD q Go.undef) /\
    (if q<LO*k then vs.getD q Go.undef else if q<LO*k+ys.length*k then arrY.toList.getD (q-LO*k) Go.undef else vs.getD q Go.undef).oneCell'=true:=by
   intro d hd;rw [hflat] at hd;have old : ∀ (d:D),(D.flat l)[q]?=some d->RepD G.K d (vs.getD q Go.undef)/\(vs.getD q Go.undef).oneCell'=true:=by
    intro d hd;obtain ⟨h1,rfl⟩:=zp2.1 hd;exact ⟨hh q h1,hone q h1⟩
   by_cases c1:q<LO*k
   ·rw [if_pos c1];rw [List.append_assoc,zp7 (by omega),List.getElem?_take_of_lt c1] at hd;exact old d hd
   rw [if_neg c1];by_cases c2:q<LO*k+ys.length*k
   ·rw [if_pos c2];rw [List.append_assoc,zp8 (by omega),hlen1,zp7 (by omega)] at hd;obtain ⟨h1,rfl⟩:=zp2.1 hd;have e3:arrY.toList.getD (q-LO*k) Go.undef=arrY.getD (q-LO*k) Go.undef:=by
     simp [List.getD_eq_getElem?_getD,zp5]
    rw [e3];exact f4 _ h1
   rw [if_neg c2];rw [zp8 (by simp only [List.length_append,hlen1,hfy];omega),List.getElem?_drop] at hd;have e4:LO*k+ys.length*k+(q-((D.flat l).take (LO*k)++D.flat ys).length)=q:=by simp only [List.length_append,hlen1,hfy];omega
   rw [e4] at hd;exact old d hd
  exact key _ (zp1 hq)
 obtain ⟨hcore,hext⟩:=a1B R hHi hw (l':=l') (row:=rowOf vs (LO*k) arrY.toList) huf (by rw [a0X hrs];omega) (fun q hq=>(each q hq).2) (fun q hq=>(each q hq).1);exact a0y hnd hrun (hn G _ _ (hdst' _ hcore) (hext m))
theorem b5w (hHe:a0P an g o=true->H=σ.heap) (h:a6T Ar.std T an σ.n g H o=some (some (ss,h'))):a0f P σ o ss h':=by
 unfold a6T at h;split at h
 ·rename_i t s hi hop;split at h
  ·rename_i d a0 k lo ln hd hs;split at h
   ·simp only [zp3] at h;split at h
    ·rename_i es zh hes hbh;split at h
     ·rename_i hc;simp [Ar.std] at hc;exact b8b hT hg hgd hop hs hes hbh hc.1.1.1 hc.1.1.2 hc.1.2 hc.2 h
     cases h
    cases h
   cases h
  cases h
 ·rename_i t s lo hi hop;split at h
  ·rename_i a0 k l0 ln c hs;simp only [zp3] at h;split at h
   ·rename_i es zl zh hes hbl hbh;split at h
    ·rename_i hc;simp [Ar.std] at hc;exact b8c hT hg hgd hop hs hes hbl hbh hc.1.1.1 hc.1.1.2 hc.1.2 hc.2 h
    cases h
   cases h
  cases h
 ·rename_i args ts hop;split at h
  ·rename_i s t hargs hts;obtain rfl:args = #[.tmp s]:=by cases args;simp_all
   obtain rfl:ts = #[t]:=by cases ts;simp_all
   split at h
   ·rename_i a0 k l0 ln c hs;simp only [zp3] at h;split at h
    ·rename_i sz e z ht;exact c0k hT hg hgd hop hs ht h
    cases h
   cases h
  cases h
 ·rename_i t s lo hi mx hop;split at h
  ·rename_i a0 k l0 ln hs;simp only [zp3] at h;split at h
   ·rename_i es zl zh zm hes hbl hbh hbm;split at h
    ·rename_i hc;simp [Ar.std] at hc;exact b5v hT hg hgd hop hs hes hbl hbh hbm hc.1.1.1.1 hc.1.1.1.2 hc.1.1.2 hc.1.2 hc.2 h
    cases h
   cases h
  cases h
 ·rename_i args ts hop;split at h
  ·rename_i s y t u hargs hts;obtain rfl:args = #[.tmp s,.tmp y]:=by cases args;simp_all
   obtain rfl:ts = #[t,u]:=by cases ts;simp_all
   split at h
   ·rename_i a0 k lo n1 c a1 k1 lo2 n2 hs hy;have hHσ:H=σ.heap:=hHe (by simp [a0P,hop,hs]);subst hHσ;simp only [zp3] at h;split at h
    ·rename_i es es1 k2 l het heu hHi;split at h
     ·rename_i hc;simp [Ar.std] at hc;obtain ⟨⟨⟨⟨⟨⟨⟨⟨q1,q2⟩,q3⟩,q4⟩,q5⟩,hk⟩,hc1⟩,hc2⟩,hc3⟩:=hc;subst q1 q2 q3 q4 q5;simp only [Option.map_eq_some_iff] at h;obtain ⟨⟨ss1,h1⟩,hp,he⟩:=h;simp only [Prod.mk.injEq] at he;obtain ⟨rfl,rfl⟩:=he;exact b3f hT hg hgd hop hs hy het heu hHi hk hc1 hc2 hc3 hp
     cases h
    cases h
   cases h
  cases h
 ·rename_i t s hop;split at h
  ·rename_i a0 hs;simp only [zp3] at h;split at h
   ·rename_i sz m e z ht;split at h
    ·rename_i td hte;exact c0l hT hg hgd hop hs ht hte h
    cases h
   cases h
  cases h
 ·rename_i args ts hop;split at h
  ·rename_i s y t u hargs hts;obtain rfl:args = #[.tmp s,y]:=by cases args;simp_all
   obtain rfl:ts = #[t,u]:=by cases ts;simp_all
   split at h
   ·rename_i a0 k lo n1 k2 ys hs hy;have hHσ:H=σ.heap:=hHe (by simp [a0P,hop,hs]);subst hHσ;simp only [zp3] at h;split at h
    ·rename_i es l het hHi;split at h
     ·rename_i hc;simp [Ar.std] at hc;obtain ⟨⟨⟨⟨q1,q2⟩,hk⟩,hc1⟩,hc2⟩:=hc;subst q1 q2;simp only [Option.map_eq_some_iff] at h;obtain ⟨⟨ss1,h1⟩,hp,he⟩:=h;simp only [Prod.mk.injEq] at he;obtain ⟨rfl,rfl⟩:=he;exact b8d hT hg hgd hop hs hy het hHi hk hc1 hc2 hp
     cases h
    cases h
   cases h
  cases h
 cases h
end
def lets (σ:St):Loc->Prop
 | .s t=>(σ.get t).free=true
 | .o i=>σ.heap[i]?=some .dead
 | .oc i j=>(∃ cs,σ.heap[i]?=some (.cells cs) /\ ∀ c,cs[j]?=some c->c.free=true) \/ ∃ k l t x,σ.heap[i]?=some (.jag k l (some (t,x)))/\j=t.toNat
 | _=>False
def Gh.gro (G:Gh) (N b cap len:Nat):Gh where
 K:=G.K
 O:=fun x=>if 0<cap/\x=b then some (.o N,0) else G.O x
 β:=fun r=>if r = .o N then b else if r = .o (N+1) then cap else if r = .o (N+2) then len else G.β r
 nh:=N+3
theorem Rel.toGro {G:Gh} {σ:St} {a:Act} {w w':World} (R:Rel G σ a w) {k:Nat} {l:List D} {cap b:Nat} {p:Option Addr} (hp:0<cap->p=some ⟨b,0,none⟩) (hu:a0k k l) (hl:l.length<=cap)
  (hsz:w.heap.size<=w'.heap.size) (hio:w'.os=w.os/\w'.output=w.output/\(∀ a,a.block<w.heap.size->w'.frozen? a=w.frozen? a)/\w'.tape=w.tape/\w.drawn<=w'.drawn)
  (hoth : ∀ b',b'<w.heap.size->(0<cap->b'≠b)->w'.heap[b']?=w.heap[b']?)
  (hb:0<cap->b<w'.heap.size/\(w.heap.size<=b \/ ∃ ℓ0,G.O b=some (ℓ0,0)/\lets σ ℓ0) /\ ∃ vs e,w'.heap[b]?=some (.cells vs e (0,0))/\cap*k<=vs.size /\
   (∀ j,j<(D.flat l).length->(vs.getD j Go.undef).oneCell'=true) /\ ∀ (j:Nat) (hj:j<(D.flat l).length),RepD G.K (D.flat l)[j] (vs.getD j Go.undef)) :
  Rel (G.gro σ.heap.length b cap l.length) { σ with heap:=σ.heap++[.gro k l,.dead,.dead] } a w'/\(∀ m,m<=G.nh->Ext m G w (G.gro σ.heap.length b cap l.length) w') /\
   ∀ ℓ,RepV (G.gro σ.heap.length b cap l.length) w' ℓ (.gref σ.heap.length k) (.slice p l.length cap):=by
 have hnh:=R.h.nh;generalize hN:σ.heap.length=N at hnh ⊢;let G':Gh:=G.gro N b cap l.length;show Rel G' _ a w'/\(∀ m,m<=G.nh->Ext m G w G' w') /\ ∀ ℓ,RepV G' w' ℓ _ _;have hb0:G'.β (.o N)=b:=by simp [G',Gh.gro]
 have hb1:G'.β (.o (N+1))=cap:=by simp [G',Gh.gro]
 have hb2:G'.β (.o (N+2))=l.length:=by simp [G',Gh.gro]
 have hβold : ∀ i,i<G.nh->G'.β (.o i)=G.β (.o i):=by
  intro i hi;simp only [G',Gh.gro,Root.o.injEq];rw [if_neg (by omega),if_neg (by omega),if_neg (by omega)]
 have hβs : ∀ t,G'.β (.s t)=G.β (.s t):=fun t=>by simp [G',Gh.gro]
 let S:Loc->Prop:=fun x=>0<cap -> ∀ f,G.O b≠some (x,f);have hOold : ∀ x b' f,S x->G.O b'=some (x,f)->G'.O b'=some (x,f)/\w'.heap[b']?=w.heap[b']?:=by
  intro x b' f hx h;have hne:0<cap->b'≠b:=by rintro hc rfl;exact hx hc f h
  refine ⟨?_,hoth b' (R.h.disj b' x f h).1 hne⟩;simp only [G',Gh.gro];rw [if_neg];exact h;rintro ⟨hc,rfl⟩;exact hne hc rfl
 have hpr:Pres G G' w w' S:=⟨KLe.refl _,fun b' x f hx h=>hOold x b' f hx h,hβold,by rw [<-hnh];simp [G',Gh.gro]⟩;have hno:Pres G G' w w' (· = .no):=hpr.no R.h.sane

 have own0 : ∀ x,¬ S x->0<cap/\lets σ x:=by
  intro x hx;rcases Nat.eq_zero_or_pos cap with hc | hc
  ·exact absurd (fun h=>absurd h (by omega)) hx
  refine ⟨hc,?_⟩;rcases (hb hc).2.1 with h | ⟨ℓ0,h,hl0⟩
  ·exact absurd (fun _ f hO=>by have:=(R.h.disj _ _ _ hO).1;omega) hx
  have:x=ℓ0:=Classical.byContradiction fun hne=>hx fun _ f hO=>by rw [h] at hO;simp at hO;exact hne hO.1.symm
  subst this;exact hl0
 have hS : ∀ x,¬ lets σ x->S x:=fun x hx=>Classical.byContradiction fun h=>hx (own0 x h).2;have hfreeV : ∀ {ℓ:Loc} {c:AV} {v:Value},RepV G w ℓ c v->c.free=true -> ∀ ℓ',RepV G' w' ℓ' c v:=by
  intro ℓ c v h hf ℓ';refine ((h.anywhere hf .no).pres R.h.sane hno rfl (fun r off e => ?_) (fun t e=>by cases e)).anywhere hf ℓ';subst e;simp [AV.free] at hf
 have hslot : ∀ t,RepV G' w' (.s t) (σ.get t) (a.tmps.getD t Go.undef):=by
  intro t;by_cases h:S (.s t)
  ·exact (R.slots t).pres R.h.sane hpr h (fun r off e=>hβs r) (fun t' e hbx=>⟨hβs t',fun j=>hS _ (by simp [lets])⟩)
  exact hfreeV (R.slots t) (own0 _ h).2 _
 have hobj : ∀ i ob,σ.heap[i]?=some ob->a2c G' w' i ob:=by
  intro i ob hob;have hi:i<G.nh:=by rw [<-hnh,<-hN];exact (zp2.1 hob).1
  by_cases h:S (.o i)
  ·by_cases h2 : ∀ j,S (.oc i j)
   ·exact (R.h.objs i ob hob).pres R.h.sane hi hpr h h2
   have h2' : ∃ j,¬ S (.oc i j):=Classical.byContradiction fun hh=>h2 fun j=>Classical.byContradiction fun hj=>hh ⟨j,hj⟩;obtain ⟨j0,hj0⟩:=h2';obtain ⟨hc,⟨cs,hcs,hcj⟩ | ⟨k1,l1,t1,x1,hcs,hjt⟩⟩:=own0 _ hj0
   case inr =>
    rw [hob] at hcs;injection hcs with hcs;subst hcs
    obtain ⟨g0,g1,g2,g3,go,g4⟩:=R.h.objs i _ hob;have hb1:=hβold (i+1) (by omega);have hb2:=hβold (i+2) g0;refine ⟨by simp only [G',Gh.gro];omega,by rw [hb2];exact g1,by rw [hb1];exact g2,g3,go,fun hcc => ?_⟩;rw [hb1] at hcc;obtain ⟨vs,e,h1,h3,h4,h5⟩:=g4 hcc;obtain ⟨h7,h8⟩:=hOold _ _ _ h h1;rw [<-hβold i hi] at h3 h7 h8;refine ⟨vs,e,h7,h8.trans h3,by rw [hb1];exact h4,fun j hj => ?_⟩;obtain ⟨l',hx⟩:=g3 _ (zp6 hj);by_cases hs:S (.oc i j)
    ·exact (h5 j hj).pres R.h.sane hpr hs (fun r off e=>absurd e (AV.not_place (a3B hx go).1 r off)) (fun t e=>by cases e)
    obtain ⟨_,⟨cs',hcs',_⟩ | ⟨k2,l2,t2,x2,hcs',hjt'⟩⟩:=own0 _ hs
    ·rw [hob] at hcs';cases hcs'
    rw [hob] at hcs';injection hcs' with hcs'
    injection hcs' with e1 e2 e3;injection e3 with e3;injection e3 with e3 e4
    subst e3 e4 hjt';have:=h5 _ hj;have e5:b1K k1 (some (t1,x1)) t1.toNat l1[t1.toNat]=x1:=by simp [b1K]
    rw [e5] at this ⊢;exact hfreeV this (go _ rfl).2 _
   rw [hob] at hcs;injection hcs with hcs;subst hcs
   obtain ⟨vs,e,h1,h3,h4,h5,h6⟩:=R.h.objs i _ hob;obtain ⟨h7,h8⟩:=hOold _ _ _ h h1;rw [<-hβold i hi] at h3 h7 h8;refine ⟨vs,e,h7,h8.trans h3,h4,fun j hj => ?_,h6⟩;by_cases hs:S (.oc i j)
   ·exact (h5 j hj).pres R.h.sane hpr hs (fun r off e=>absurd e (AV.not_place (AV.isLocal_of_isCell (h6 _ (zp6 hj))) r off)) (fun t e=>by cases e)
   obtain ⟨_,⟨cs',hcs',hcj'⟩ | ⟨k2,l2,t2,x2,hcs',_⟩⟩:=own0 _ hs
   case inr=>rw [hob] at hcs';cases hcs'
   rw [hob] at hcs';injection hcs' with hcs'
   injection hcs' with hcs';subst hcs'
   exact hfreeV (h5 j hj) (hcj' _ (zp1 hj)) _
  have:=(own0 _ h).2;simp only [lets] at this;rw [hob] at this;injection this with this;subst this;trivial
 have hdisj : ∀ b' ℓ f,G'.O b'=some (ℓ,f)->b'<w'.heap.size /\ ∀ j,f<=j->G'.K ⟨b',j,none⟩=none:=by
  intro b' ℓ f h;simp only [G',Gh.gro] at h;split at h
  ·rename_i hc;obtain ⟨hc,rfl⟩:=hc;obtain ⟨h1,h2,_⟩:=hb hc;refine ⟨h1,fun j _ => ?_⟩;show G.K _=none;rcases h2 with h2 | ⟨ℓ0,h2,_⟩
   ·cases hK:G.K ⟨b',j,none⟩ with
    | none=>rfl
    | some v=>have:=World.block_lt_of_cell? w _ (R.h.kept _ _ hK);simp at this;omega
   exact (R.h.disj _ _ _ h2).2 j (Nat.zero_le _)
  obtain ⟨h1,h2⟩:=R.h.disj b' ℓ f h;exact ⟨by omega,h2⟩
 have hkept : ∀ x v,G'.K x=some v->w'.cell? x=some v:=by
  intro x v h;have hx:=R.h.kept x v h;have hlt:=World.block_lt_of_cell? w _ hx;have hne:0<cap->x.block≠b:=by
   intro hc hxb;have hspot:=World.cell?_spot hx;obtain ⟨xb,j,s⟩:=x;simp at hspot hxb;subst hspot hxb;rcases (hb hc).2.1 with h2 | ⟨ℓ0,h2,_⟩
   ·simp at hlt;omega
   have:=(R.h.disj _ _ _ h2).2 j (Nat.zero_le _);have h':G.K ⟨xb,j,none⟩=some v:=h;rw [this] at h';cases h'
  unfold World.cell? at *
  rwa [hoth _ hlt hne]
 refine ⟨⟨⟨⟨fun b' x f h => ?_⟩,by simp [G',Gh.gro,hN],fun i ob hob => ?_,hkept,hdisj⟩,R.size,hslot,R.places,?_⟩,fun m hm => ?_,fun ℓ => ?_⟩
 ·simp only [G',Gh.gro] at h;split at h
  ·simp at h;rw [<-h.1];simp [Loc.root]
  exact R.h.sane.no b' x f h
 ·simp only at hob;rcases Nat.lt_or_ge i N with hi | hi
  ·rw [zp7 (by omega)] at hob;exact hobj i ob hob
  rw [zp8 (by omega),hN] at hob
  match hq:i-N,hob with
  | 0,hob =>
    obtain rfl:i=N:=by omega
    simp at hob;subst hob;show i+2<G'.nh/\_;refine ⟨by simp [G',Gh.gro],by rw [hb2],by rw [hb1];exact hl,hu,fun hc => ?_⟩;rw [hb1] at hc ⊢;obtain ⟨h1,h2,vs,e,h3,h4,h5,h6⟩:=hb hc;rw [hb0];exact ⟨vs,e,by simp only [G',Gh.gro];rw [if_pos ⟨hc,trivial⟩],h3,h4,h5,h6⟩
  | 1,hob=>simp at hob;subst hob;trivial
  | 2,hob=>simp at hob;subst hob;trivial
  | q+3,hob=>simp at hob
 ·refine ⟨R.df.1,fun x hx => ?_⟩;obtain ⟨r0,h1,h2,h3⟩:=R.df.2 x hx;obtain ⟨h4,h5⟩:=hOold _ _ _ (hS .df (by simp [lets])) h2;exact ⟨r0,h1,h4,h5.trans h3⟩
 ·refine ⟨KLe.refl _,fun x v h => .inl h,fun b' hb' h => ?_,hsz,fun i hi=>hβold i (by omega),hio⟩;have hne:0<cap->b'≠b:=by
   rintro hc rfl;rcases (hb hc).2.1 with h2 | ⟨ℓ0,h2,_⟩
   ·omega
   rw [h] at h2;cases h2
  refine ⟨hoth b' hb' hne,?_⟩;simp only [G',Gh.gro];rw [if_neg];exact h;rintro ⟨hc,rfl⟩;exact hne hc rfl
 have:=RepV.gref (G:=G') (w:=w') ℓ N k p (by simp [G',Gh.gro]) (by rw [hb1,hb2];exact hl) (by rw [hb1,hb0];exact hp)
 rwa [hb1,hb2] at this
def Gh.give (G:Gh) (b cap:Nat) (ℓ:Loc):Gh:={ G with O:=fun x=>if 0<cap/\x=b then some (ℓ,0) else G.O x }
theorem Rel.toLoc {G:Gh} {σ:St} {a:Act} {w w':World} (R:Rel G σ a w) (ℓ1:Loc) (hℓ:ℓ1.root ≠ .no) {k:Nat} {l:List D} {cap b:Nat} {p:Option Addr} (hp:0<cap->p=some ⟨b,0,none⟩) (hu:a0k k l) (hl:l.length<=cap)
  (hsz:w.heap.size<=w'.heap.size) (hio:w'.os=w.os/\w'.output=w.output/\(∀ a,a.block<w.heap.size->w'.frozen? a=w.frozen? a)/\w'.tape=w.tape/\w.drawn<=w'.drawn)
  (hoth : ∀ b',b'<w.heap.size->(0<cap->b'≠b)->w'.heap[b']?=w.heap[b']?)
  (hb:0<cap->b<w'.heap.size/\(w.heap.size<=b \/ ∃ ℓ0,G.O b=some (ℓ0,0)/\lets σ ℓ0) /\ ∃ vs e,w'.heap[b]?=some (.cells vs e (0,0))/\cap*k<=vs.size /\
   (∀ j,j<(D.flat l).length->(vs.getD j Go.undef).oneCell'=true) /\ ∀ (j:Nat) (hj:j<(D.flat l).length),RepD G.K (D.flat l)[j] (vs.getD j Go.undef)) :
  Rel (G.give b cap ℓ1) σ a w'/\(∀ m,m<=G.nh->Ext m G w (G.give b cap ℓ1) w')/\a6X (G.give b cap ℓ1) w' ℓ1 k l (.slice p l.length cap):=by
 have hnh:=R.h.nh;let G':Gh:=G.give b cap ℓ1;show Rel G' _ a w'/\(∀ m,m<=G.nh->Ext m G w G' w')/\a6X G' w' ℓ1 k l _;have hβold : ∀ i,i<G.nh->G'.β (.o i)=G.β (.o i):=fun _ _=>rfl;have hβs : ∀ t,G'.β (.s t)=G.β (.s t):=fun t=>rfl;let S:Loc->Prop:=fun x=>0<cap -> ∀ f,G.O b≠some (x,f);have hOold : ∀ x b' f,S x->G.O b'=some (x,f)->G'.O b'=some (x,f)/\w'.heap[b']?=w.heap[b']?:=by
  intro x b' f hx h;have hne:0<cap->b'≠b:=by rintro hc rfl;exact hx hc f h
  refine ⟨?_,hoth b' (R.h.disj b' x f h).1 hne⟩;simp only [G',Gh.give];rw [if_neg];exact h;rintro ⟨hc,rfl⟩;exact hne hc rfl
 have hpr:Pres G G' w w' S:=⟨KLe.refl _,fun b' x f hx h=>hOold x b' f hx h,hβold,Nat.le_refl _⟩;have hno:Pres G G' w w' (· = .no):=hpr.no R.h.sane;have own0 : ∀ x,¬ S x->0<cap/\lets σ x:=by
  intro x hx;rcases Nat.eq_zero_or_pos cap with hc | hc
  ·exact absurd (fun h=>absurd h (by omega)) hx
  refine ⟨hc,?_⟩;rcases (hb hc).2.1 with h | ⟨ℓ0,h,hl0⟩
  ·exact absurd (fun _ f hO=>by have:=(R.h.disj _ _ _ hO).1;omega) hx
  have:x=ℓ0:=Classical.byContradiction fun hne=>hx fun _ f hO=>by rw [h] at hO;simp at hO;exact hne hO.1.symm
  subst this;exact hl0
 have hS : ∀ x,¬ lets σ x->S x:=fun x hx=>Classical.byContradiction fun h=>hx (own0 x h).2;have hfreeV : ∀ {ℓ:Loc} {c:AV} {v:Value},RepV G w ℓ c v->c.free=true -> ∀ ℓ',RepV G' w' ℓ' c v:=by
  intro ℓ c v h hf ℓ';refine ((h.anywhere hf .no).pres R.h.sane hno rfl (fun r off e => ?_) (fun t e=>by cases e)).anywhere hf ℓ';subst e;simp [AV.free] at hf
 have hslot : ∀ t,RepV G' w' (.s t) (σ.get t) (a.tmps.getD t Go.undef):=by
  intro t;by_cases h:S (.s t)
  ·exact (R.slots t).pres R.h.sane hpr h (fun r off e=>hβs r) (fun t' e hbx=>⟨hβs t',fun j=>hS _ (by simp [lets])⟩)
  exact hfreeV (R.slots t) (own0 _ h).2 _
 have hobj : ∀ i ob,σ.heap[i]?=some ob->a2c G' w' i ob:=by
  intro i ob hob;have hi:i<G.nh:=by rw [<-hnh];exact (zp2.1 hob).1
  by_cases h:S (.o i)
  ·by_cases h2 : ∀ j,S (.oc i j)
   ·exact (R.h.objs i ob hob).pres R.h.sane hi hpr h h2
   have h2' : ∃ j,¬ S (.oc i j):=Classical.byContradiction fun hh=>h2 fun j=>Classical.byContradiction fun hj=>hh ⟨j,hj⟩;obtain ⟨j0,hj0⟩:=h2';obtain ⟨hc,⟨cs,hcs,hcj⟩ | ⟨k1,l1,t1,x1,hcs,hjt⟩⟩:=own0 _ hj0
   case inr =>
    rw [hob] at hcs;injection hcs with hcs;subst hcs
    obtain ⟨g0,g1,g2,g3,go,g4⟩:=R.h.objs i _ hob;have hb1:=hβold (i+1) (by omega);have hb2:=hβold (i+2) g0;refine ⟨g0,by rw [hb2];exact g1,by rw [hb1];exact g2,g3,go,fun hcc => ?_⟩;rw [hb1] at hcc;obtain ⟨vs,e,h1,h3,h4,h5⟩:=g4 hcc;obtain ⟨h7,h8⟩:=hOold _ _ _ h h1;rw [<-hβold i hi] at h3 h7 h8;refine ⟨vs,e,h7,h8.trans h3,by rw [hb1];exact h4,fun j hj => ?_⟩;obtain ⟨l',hx⟩:=g3 _ (zp6 hj);by_cases hs:S (.oc i j)
    ·exact (h5 j hj).pres R.h.sane hpr hs (fun r off e=>absurd e (AV.not_place (a3B hx go).1 r off)) (fun t e=>by cases e)
    obtain ⟨_,⟨cs',hcs',_⟩ | ⟨k2,l2,t2,x2,hcs',hjt'⟩⟩:=own0 _ hs
    ·rw [hob] at hcs';cases hcs'
    rw [hob] at hcs';injection hcs' with hcs'
    injection hcs' with e1 e2 e3;injection e3 with e3;injection e3 with e3 e4
    subst e3 e4 hjt';have:=h5 _ hj;have e5:b1K k1 (some (t1,x1)) t1.toNat l1[t1.toNat]=x1:=by simp [b1K]
    rw [e5] at this ⊢;exact hfreeV this (go _ rfl).2 _
   rw [hob] at hcs;injection hcs with hcs;subst hcs
   obtain ⟨vs,e,h1,h3,h4,h5,h6⟩:=R.h.objs i _ hob;obtain ⟨h7,h8⟩:=hOold _ _ _ h h1;refine ⟨vs,e,h7,h8.trans h3,h4,fun j hj => ?_,h6⟩;by_cases hs:S (.oc i j)
   ·exact (h5 j hj).pres R.h.sane hpr hs (fun r off e=>absurd e (AV.not_place (AV.isLocal_of_isCell (h6 _ (zp6 hj))) r off)) (fun t e=>by cases e)
   obtain ⟨_,⟨cs',hcs',hcj'⟩ | ⟨k2,l2,t2,x2,hcs',_⟩⟩:=own0 _ hs
   case inr=>rw [hob] at hcs';cases hcs'
   rw [hob] at hcs';injection hcs' with hcs'
   injection hcs' with hcs';subst hcs'
   exact hfreeV (h5 j hj) (hcj' _ (zp1 hj)) _
  have:=(own0 _ h).2;simp only [lets] at this;rw [hob] at this;injection this with this;subst this;trivial
 have hdisj : ∀ b' ℓ f,G'.O b'=some (ℓ,f)->b'<w'.heap.size /\ ∀ j,f<=j->G'.K ⟨b',j,none⟩=none:=by
  intro b' ℓ f h;simp only [G',Gh.give] at h;split at h
  ·rename_i hc;obtain ⟨hc,rfl⟩:=hc;obtain ⟨h1,h2,_⟩:=hb hc;refine ⟨h1,fun j _ => ?_⟩;show G.K _=none;rcases h2 with h2 | ⟨ℓ0,h2,_⟩
   ·cases hK:G.K ⟨b',j,none⟩ with
    | none=>rfl
    | some v=>have:=World.block_lt_of_cell? w _ (R.h.kept _ _ hK);simp at this;omega
   exact (R.h.disj _ _ _ h2).2 j (Nat.zero_le _)
  obtain ⟨h1,h2⟩:=R.h.disj b' ℓ f h;exact ⟨by omega,h2⟩
 have hkept : ∀ x v,G'.K x=some v->w'.cell? x=some v:=by
  intro x v h;have hx:=R.h.kept x v h;have hlt:=World.block_lt_of_cell? w _ hx;have hne:0<cap->x.block≠b:=by
   intro hc hxb;have hspot:=World.cell?_spot hx;obtain ⟨xb,j,s⟩:=x;simp at hspot hxb;subst hspot hxb;rcases (hb hc).2.1 with h2 | ⟨ℓ0,h2,_⟩
   ·simp at hlt;omega
   have:=(R.h.disj _ _ _ h2).2 j (Nat.zero_le _);have h':G.K ⟨xb,j,none⟩=some v:=h;rw [this] at h';cases h'
  unfold World.cell? at *
  rwa [hoth _ hlt hne]
 refine ⟨⟨⟨⟨fun b' x f h => ?_⟩,by simpa [G',Gh.give] using hnh,fun i ob hob=>hobj i ob hob,hkept,hdisj⟩,R.size,hslot,R.places,?_⟩,fun m hm => ?_,⟨p,cap,rfl,hu,hl,fun hc => ?_⟩⟩
 ·simp only [G',Gh.give] at h;split at h
  ·simp at h;rw [<-h.1];exact hℓ
  exact R.h.sane.no b' x f h
 ·refine ⟨R.df.1,fun x hx => ?_⟩;obtain ⟨r0,h1,h2,h3⟩:=R.df.2 x hx;obtain ⟨h4,h5⟩:=hOold _ _ _ (hS .df (by simp [lets])) h2;exact ⟨r0,h1,h4,h5.trans h3⟩
 ·refine ⟨KLe.refl _,fun x v h => .inl h,fun b' hb' h => ?_,hsz,fun i hi=>rfl,hio⟩;have hne:0<cap->b'≠b:=by
   rintro hc rfl;rcases (hb hc).2.1 with h2 | ⟨ℓ0,h2,_⟩
   ·omega
   rw [h] at h2;cases h2
  refine ⟨hoth b' hb' hne,?_⟩;simp only [G',Gh.give];rw [if_neg];exact h;rintro ⟨hc,rfl⟩;exact hne hc rfl
 obtain ⟨_,_,vs,e,h3,h4,h5,h6⟩:=hb hc;exact ⟨b,vs,e,hp hc,by simp only [G',Gh.give];rw [if_pos ⟨hc,trivial⟩],h3,h4,h5,h6⟩
theorem Rel.kill {G:Gh} {σ:St} {a:Act} {w:World} (R:Rel G σ a w) (i:Nat):Rel G { σ with heap:=σ.heap.set i .dead } a w:=by
 refine ⟨⟨R.h.sane,by simpa using R.h.nh,fun j ob hob => ?_,R.h.kept,R.h.disj⟩,R.size,R.slots,R.places,R.df⟩;by_cases hij:i=j
 ·subst hij;have:ob = .dead:=by
   rw [List.getElem?_set] at hob;simp at hob;exact hob.2.symm
  subst this;trivial
 rw [List.getElem?_set_ne hij] at hob;exact R.h.objs j ob hob
theorem a4h {G:Gh} {σ:St} {g:Nat->AV} {a:Act} {w:World} (hg:Less g σ) (R:Rel G σ a w) {s i k:Nat} (h:g s = .gref i k) :
  ∃ p,a.eval (.tmp s) = .slice p (G.β (.o (i+2))) (G.β (.o (i+1)))/\i+2<G.nh/\G.β (.o (i+2))<=G.β (.o (i+1))/\(0<G.β (.o (i+1))->p=some ⟨G.β (.o i),0,none⟩):=by
 have:=hg.rep R s;rw [h] at this;generalize hv:a.tmps.getD s Go.undef=v at this;cases this with | gref _ _ _ p h1 h2 h3=>exact ⟨p,hv,h1,h2,h3⟩
theorem a3Q {P:Program} {w:World} {b:Nat} {vs:Array Value} {e:TypeId} (hw:w.heap[b]?=some (.cells vs e (0,0))) {k n cap:Nat} (hn:n*k<=vs.size) :
  (Builtin.firstCells k n (.slice (some ⟨b,0,none⟩) n cap)).run P w = .ok ((List.range (n*k)).map fun j=>vs.getD j Go.undef).toArray w:=by
 have hl:=run_loadCells (P:=P) w ⟨b,0,none⟩ (n*k) (fun j=>vs.getD j Go.undef) (fun j hj=>by rw [Addr.add_none,Nat.zero_add];exact a0V hw (by omega));simp [Builtin.firstCells,hl]
theorem Rel.reSlotG {G:Gh} {σ:St} {a:Act} {w:World} (R:Rel G σ a w) {s:Nat} {c:AV} (hc:RepV G w (.s s) c (a.tmps.getD s Go.undef)) (hl:c.isLocal=false) (hb:(σ.get s).isBox=false):Rel G { σ with env:=a2A σ.env s c } a w:=by
 refine ⟨R.h,R.size,fun t => ?_,fun t r off ht => ?_,R.df⟩
 ·simp only [St.get,a0d];split
  ·rename_i e;subst e;exact hc
  exact R.slots t
 simp only [St.get,a0d] at ht ⊢;split at ht
 ·subst ht;simp [AV.isLocal] at hl
 obtain ⟨cs,hcs⟩:=R.places t r off ht;refine ⟨cs,?_⟩;split
 ·rename_i e;subst e;rw [show σ.get s = .lbox cs from hcs] at hb;simp [AV.isBox] at hb
 exact hcs
theorem Rel.freshGro {G:Gh} {σ:St} {a:Act} {w:World} (R:Rel G σ a w) {s k:Nat} {l:List D} (hs:σ.get s = .fresh k l) :
  ∃ G',Rel G' { σ with env:=a2A σ.env s (.gref σ.heap.length k),heap:=σ.heap++[.gro k l,.dead,.dead] } a w /\ ∀ m,m<=G.nh->Ext m G w G' w:=by
 have h0:=R.slots s;rw [hs] at h0;cases h0 with | fresh _ _ _ _ h0 =>
 obtain ⟨p,cap,hv,hu,hl,hb⟩:=h0;have R1:=R.reSlotG (s:=s) (c := .junk) (by rw [hv];exact .junk _ _ rfl) rfl (by rw [hs];rfl);obtain ⟨b,hb'⟩ : ∃ b,0<cap->p=some ⟨b,0,none⟩/\G.O b=some (.s s,0) /\ ∃ vs e,w.heap[b]?=some (.cells vs e (0,0))/\cap*k<=vs.size /\
   (∀ j,j<(D.flat l).length->(vs.getD j Go.undef).oneCell'=true) /\ ∀ (j:Nat) (hj:j<(D.flat l).length),RepD G.K (D.flat l)[j] (vs.getD j Go.undef):=by
  rcases Nat.eq_zero_or_pos cap with h | h
  ·exact ⟨0,fun h'=>by omega⟩
  obtain ⟨b,vs,e,q1,q2,q3,q4,q5,q6⟩:=hb h;exact ⟨b,fun _=>⟨q1,q2,vs,e,q3,q4,q5,q6⟩⟩
 obtain ⟨R2,hE,hrep⟩:=R1.toGro (w':=w) (k:=k) (l:=l) (cap:=cap) (b:=b) (p:=p) (fun hc=>(hb' hc).1) hu hl (Nat.le_refl _) ⟨rfl,rfl,fun _ _=>rfl,rfl,Nat.le_refl _⟩ (fun _ _ _=>rfl)
  (fun hc=>by
   obtain ⟨q1,q2,vs,e,q3,q4⟩:=hb' hc;refine ⟨(Array.getElem?_eq_some_iff.1 q3).1,.inr ⟨_,q2,?_⟩,vs,e,q3,q4⟩;show ((a2A σ.env s .junk |> fun e=>({ σ with env:=e }:St)).get s).free=true
   simp [St.get,a0d,AV.free])
 have R3:=R2.reSlotG (s:=s) (c := .gref σ.heap.length k) (by rw [hv];exact hrep _) rfl (by simp [St.get,a0d,AV.isBox]);refine ⟨_,⟨R3.h,R3.size,fun t => ?_,fun t r off ht => ?_,R3.df⟩,hE⟩
 ·have:=R3.slots t;have e : ∀ t,St.get { σ with env:=a2A σ.env s (.gref σ.heap.length k),heap:=σ.heap++[.gro k l,.dead,.dead] } t=St.get { σ with env:=a2A (a2A σ.env s .junk) s (.gref σ.heap.length k),heap:=σ.heap++[.gro k l,.dead,.dead] } t:=fun t=>by
   simp only [St.get,a0d];split <;> rfl
  rw [e];exact this
 have e : ∀ t,St.get { σ with env:=a2A σ.env s (.gref σ.heap.length k),heap:=σ.heap++[.gro k l,.dead,.dead] } t=St.get { σ with env:=a2A (a2A σ.env s .junk) s (.gref σ.heap.length k),heap:=σ.heap++[.gro k l,.dead,.dead] } t:=fun t=>by
  simp only [St.get,a0d];split <;> rfl
 rw [e] at ht ⊢;exact R3.places t r off ht
theorem a0f.settle {P:Program} {σ:St} {o:Oper} {d k:Nat} {l:List D} {H1:List Obj} (h:a0f P σ o [(d,.fresh k l)] (some H1)) (hlen:σ.heap.length<=H1.length):a0f P σ o [(d,.gref H1.length k)] (some (H1++[.gro k l,.dead,.dead])):=by
 intro r n m G a w Q next hm R hn
 refine h r n m G a w Q next hm R (fun G' a' w' R' hE => ?_)
 have hm':m<=G'.nh:=by
  have h1:=R.h.nh;have h2:H1.length=G'.nh:=R'.h.nh;omega
 obtain ⟨G2,R2,hE2⟩:=R'.freshGro (s:=d) (k:=k) (l:=l) (by simp [St.upd,St.get,a0r,a0d]);refine hn G2 a' w' ?_ (hE.trans (hE2 m hm'));refine ⟨R2.h,R2.size,fun t => ?_,fun t r off ht => ?_,R2.df⟩
 ·have:=R2.slots t;have e : ∀ t,St.get (σ.upd [(d,.gref H1.length k)] (some (H1++[.gro k l,.dead,.dead]))) t=St.get { σ.upd [(d,.fresh k l)] (some H1) with env:=a2A (σ.upd [(d,.fresh k l)] (some H1)).env d (.gref H1.length k),heap:=H1++[.gro k l,.dead,.dead] } t:=fun t=>by
   simp only [St.upd,St.get,a0r,List.foldl,a0d];split <;> rfl
  rw [e];exact this
 have e : ∀ t,St.get (σ.upd [(d,.gref H1.length k)] (some (H1++[.gro k l,.dead,.dead]))) t=St.get { σ.upd [(d,.fresh k l)] (some H1) with env:=a2A (σ.upd [(d,.fresh k l)] (some H1)).env d (.gref H1.length k),heap:=H1++[.gro k l,.dead,.dead] } t:=fun t=>by
  simp only [St.upd,St.get,a0r,List.foldl,a0d];split <;> rfl
 rw [e] at ht ⊢;exact R2.places t r off ht
section
variable {P:Program} {T:a0i} (hT:TOk P T) {σ:St} {g:Nat->AV} {o:Oper} {ss:a1C} {h':Option (List Obj)} {H:List Obj} {an:Ann}
 (hg:Less g σ) (hgd : ∀ d,o.dst=some d->g d=σ.get d)
include hT hg hgd
theorem c0m {t:TypeId} {s:Nat} (hop:o.op = .call { callee := .builtin .len,args := #[.tmp s],argTypes := #[t] }) {a0 k:Nat} {l:List D} (hs:g s = .gref a0 k) (hHi:σ.heap[a0]?=some (.gro k l))
  {sz e:Nat} {z:List AV} (ht:T t=some { size:=sz,u := .slice e,zero:=z }) (h:put σ.n g o.dst (.d (.int .i64 (Ar.std.len l)))=some (ss,h')):a0f P σ o ss h':=by
 refine a0c hgd h (by simp [hop]) (AV.free_place rfl) ?_;intro G a w R;obtain ⟨p,hv,_,_,_⟩:=a4h hg R hs;obtain ⟨_,q1,_⟩:=R.h.objs a0 _ hHi;refine ⟨.int .i64 (Ar.std.len l),?_,fun d => .d _ _ _ (.int _ _)⟩;simp [execOp,hop,resolve,invoke,Go.builtin,Builtin.len_,Builtin.lenOf,hv,goInt,Go.underlying,hT.slice ht,Ar.std,q1]
theorem b5x {t:TypeId} {s:Nat} {i:Operand} (hop:o.op = .indexAddr t (.tmp s) i) {a0 k:Nat} {l:List D} (hs:g s = .gref a0 k) (hHi:σ.heap[a0]?=some (.gro k l))
  {sz e:Nat} {zz:List AV} (ht:T t=some { size:=sz,u := .slice e,zero:=zz }) {td:TD} (hte:T e=some td) {kz:IntKind} {z:Int} (hi:opv T g 0 i=some (.d (.int kz z))) (hk:td.size=k) (hz0:0<=z) (hz1:z<(l.length:Int))
  (h:put σ.n g o.dst (.eptr a0 k z 0)=some (ss,h')):a0f P σ o ss h':=by
 subst hk;refine a0c hgd h (by simp [hop]) (AV.free_place rfl) ?_;intro G a w R;have h1:=(a0Y hg R hi .no).1;cases h1 with | d _ _ _ h1 =>
 generalize hei:a.eval i=vi at h1;cases h1;obtain ⟨p,hv,hnh,hle,hp⟩:=a4h hg R hs;obtain ⟨_,q1,q2,_⟩:=R.h.objs a0 _ hHi;obtain rfl:=hp (by omega);have hzz:z<((G.β (.o (a0+2)):Nat):Int):=by omega
 refine ⟨.pointer (some ⟨G.β (.o a0),0+z.toNat*td.size,none⟩),?_,fun d => ?_⟩
 ·have hmx : ¬ ((G.β (.o (a0+2)):Nat):Int)<=z:=by omega
  simp [execOp,hop,hv,hei,Instr.indexAt,asIntOf,Go.underlying,hT.slice ht,hz0,hzz,hmx,hT.size hte,Addr.add_none]
 have:=RepV.eptr (G:=G) (w:=w) (.s d) a0 td.size z 0 (by omega) hz0;simpa using this
omit hT hg hgd in
theorem a6C : ∀ (l:List D),a0N (l.map AV.d)=some l
 | []=>rfl
 | x::r=>by simp only [List.map_cons,a0N,a6C r,Option.map_some]
omit hT hg hgd in
theorem a8p {td:TD} {k j:Nat} {y v:D} (h:a9n td k j y=some v) (hy:y.cells.length=k):a0O td (y.cells.map .d) j=some (.d v):=by
 unfold a9n at h;split at h
 ·rename_i cs;split at h
  ·rename_i hc;simp only [zp4,decide_eq_true_eq] at hc;obtain ⟨⟨h1,rfl⟩,h2⟩:=hc;cases h;simp only [D.cells] at hy ⊢;unfold a0O cut;have e:(0:Nat)+td.size<=(cs.map AV.d).length:=by rw [List.length_map];omega
   have e2:((cs.map AV.d).drop 0).take td.size=cs.map AV.d:=by rw [List.drop_zero,List.take_of_length_le (by rw [List.length_map];omega)]
   rw [if_pos e,e2,h1];simp only [if_true];unfold a5w;rw [a6C]
  cases h
 cases h
theorem b0p {t:TypeId} {s:Nat} (hop:o.op = .load t (.tmp s)) {a0 k:Nat} {l:List D} {i:Int} {j:Nat} (hpt0 : ∀ {G:Gh} {a:Act} {w:World},Rel G σ a w->a.eval (.tmp s) = .pointer (some ⟨G.β (.o a0),i.toNat*k+j,none⟩)/\a0<G.nh/\0<=i) (hHi:σ.heap[a0]?=some (.gro k l)) {td:TD} (ht:T t=some td)
  {y:D} (hy:l[i.toNat]?=some y) {av:AV} (hav:y.cells.length=k->a0O td (y.cells.map .d) j=some av) (hp:put σ.n g o.dst av=some (ss,h')):a0f P σ o ss h':=by
 have run : ∀ G a w,Rel G σ a w -> ∃ v,(loadVar t ⟨G.β (.o a0),i.toNat*k+j,none⟩).run P w = .ok v w/\av.free=true /\ ∀ ℓ,RepV G w ℓ av v:=by
  intro G a w R;obtain ⟨_,q1,q2,hu,q3⟩:=R.h.objs a0 _ hHi;have hlt:i.toNat<l.length:=(zp2.1 hy).1;obtain ⟨vs,e,hO,hw,hs,h1,hh⟩:=q3 (by omega);have hyl:y.cells.length=k:=hu y (List.mem_of_getElem? hy);have hfl:=a0b hu;have hmul:i.toNat*k+k<=l.length*k:=by rw [<-Nat.succ_mul];exact Nat.mul_le_mul_right _ hlt
  have hmul2:l.length*k<=G.β (.o (a0+1))*k:=Nat.mul_le_mul_right _ q2;have hcell : ∀ (q:Nat) (hq:q<y.cells.length),RepD G.K y.cells[q] (vs.getD (i.toNat*k+q) Go.undef)/\(vs.getD (i.toNat*k+q) Go.undef).oneCell'=true:=by
   intro q hq;have hfg:=a0H hu hy q (by omega);have hj:i.toNat*k+q<(D.flat l).length:=by omega
   rw [zp1 hj,zp1 hq] at hfg;have:=hh _ hj;rw [Option.some.inj hfg] at this;exact ⟨this,h1 _ hj⟩
  exact a1W hT ht (G:=G) (w:=w) (b:=G.β (.o a0)) (o:=i.toNat*k) (off:=j) (cs:=y.cells.map .d) (vs:=fun q=>vs.getD (i.toNat*k+q) Go.undef)
   (fun q hq=>by simp at hq;exact a0V hw (by omega)) (fun q hq=>⟨.no,by simp at hq;simpa using RepV.d (G:=G) (w:=w) .no _ _ (hcell q hq).1⟩)
   (a1A (K:=G.K) (fun q hq=>(hcell q hq).2) (fun q hq=>(hcell q hq).1)) (hav hyl)
 intro r n m G a w Q next hm R hn
 obtain ⟨_,_,hfree,_⟩:=run G a w R;refine a0c hgd hp (by simp [hop]) (AV.free_place (AV.free_isLocal hfree)) ?_ r n m G a w Q next hm R hn
 intro G a w R;obtain ⟨hv,hnh,hi⟩:=hpt0 R;obtain ⟨v,hr,_,hrep⟩:=run G a w R;exact ⟨v,by simp [execOp,hop,hv,Instr.loadAt,Instr.sureAddr,hr],fun d=>hrep _⟩
theorem b3g {t:TypeId} {s:Nat} (hop:o.op = .load t (.tmp s)) {a0 k:Nat} {l:List D} {i:Int} {j:Nat} (hs:g s = .eptr a0 k i j) (hHi:σ.heap[a0]?=some (.gro k l)) {td:TD} (ht:T t=some td)
  {y:D} (hy:l[i.toNat]?=some y) {av:AV} (hav:y.cells.length=k->a0O td (y.cells.map .d) j=some av) (hp:put σ.n g o.dst av=some (ss,h')):a0f P σ o ss h' :=
 b0p hT hg hgd hop (fun R=>eptr_val hg R (x := .tmp s) hs) hHi ht hy hav hp
end
theorem Rel.giveF {G:Gh} {σ:St} {a:Act} {w:World} (R:Rel G σ a w) {s k:Nat} {l:List D} (hs:σ.get s = .fresh k l) (ℓ':Loc) (h0:ℓ'.root ≠ .no) :
  Rel (G.move (.s s) ℓ') (σ.upd [(s,.undef)] none) a w/\RepV (G.move (.s s) ℓ') w ℓ' (.fresh k l) (a.tmps.getD s Go.undef):=by
 have hrep:=R.slots s;rw [hs] at hrep;generalize hv:a.tmps.getD s Go.undef=v at hrep;cases hrep with | fresh _ _ _ _ hr =>
 have hpr:=G.move_pres w (.s s) ℓ';refine ⟨⟨R.h.move _ _ h0 ?_,by simpa [St.upd] using R.size,?_,?_,R.df.move (by simp)⟩,.fresh _ _ _ _ (hr.mono (KLe.refl _) (fun b hO=>⟨by simp [Gh.move,hO],rfl⟩))⟩
 ·intro i ob hob;exact (R.h.objs i ob hob).pres R.h.sane (by rw [<-R.h.nh];exact (zp2.1 hob).1) hpr (by simp) (by simp)
 ·intro t;simp only [St.upd,St.get,a0r,List.foldl_cons,List.foldl_nil,a0d];split
  ·exact .undef _ _
  rename_i e2;exact (R.slots t).pres R.h.sane hpr (by simp;exact fun e=>e2 e.symm) (fun _ _ _=>rfl) (fun _ _ _=>⟨rfl,by simp⟩)
 intro t r' off ht;simp only [St.upd,St.get,a0r,List.foldl_cons,List.foldl_nil,a0d] at ht ⊢;split at ht
 ·cases ht
 obtain ⟨cs,hcs⟩:=R.places t r' off ht;refine ⟨cs,?_⟩;split
 ·rename_i e;subst e;rw [hcs] at hs;cases hs
 exact hcs
theorem b3h {G:Gh} {σ:St} {g:Nat->AV} {a:Act} {w:World} (hg:Less g σ) (R:Rel G σ a w) {s i off:Nat} (h:g s = .ptr i off) :
  a.eval (.tmp s) = .pointer (some ⟨G.β (.o i),off,none⟩)/\i<G.nh:=by
 have:=hg.rep R s;rw [h] at this;generalize hv:a.tmps.getD s Go.undef=v at this;cases this with | ptr _ _ _ h1=>exact ⟨hv,h1⟩
theorem a7k {G:Gh} {σ:St} {a:Act} {w:World} (R:Rel G σ a w) {i k:Nat} {l l':List D} {cur row:Array Value} {e:TypeId} (hi:σ.heap[i]?=some (.gro k l)) (hne:0<l.length)
  (hw:w.heap[G.β (.o i)]?=some (.cells cur e (0,0))) (hll:l'.length=l.length) (hu:a0k k l') (hrs:row.size=cur.size)
  (h1 : ∀ j,j<(D.flat l').length->(row.getD j Go.undef).oneCell'=true) (hh : ∀ (j:Nat) (hj:j<(D.flat l').length),RepD G.K (D.flat l')[j] (row.getD j Go.undef)) :
  Rel G (σ.upd [] (some (σ.heap.set i (.gro k l')))) a (w.setRow (G.β (.o i)) row) /\ ∀ m,Ext m G w G (w.setRow (G.β (.o i)) row):=by
 obtain ⟨g0,g1,g2,g3,g4⟩:=R.h.objs i _ hi;obtain ⟨vs0,e0,hO,hw0,hsz0,_,_⟩:=g4 (by omega);rw [hw] at hw0;simp at hw0;obtain ⟨rfl,rfl⟩:=hw0;have hpr:=a2Y (w:=w) hO row;have hil:i<σ.heap.length:=(zp2.1 hi).1;refine ⟨⟨⟨R.h.sane,by simpa [St.upd] using R.h.nh,fun i' ob hob => ?_,a2Z R.h.kept (fun j=>(R.h.disj _ _ _ hO).2 j (Nat.zero_le _)) hO _,fun b ℓ f h => ?_⟩,by simpa [St.upd] using R.size,?_,?_,?_⟩,fun m=>Ext.setRow hO _⟩
 ·simp only [St.upd,Option.getD_some] at hob;by_cases hii:i=i'
  ·subst hii;rw [List.getElem?_set_self hil] at hob;injection hob with hob;subst hob
   exact ⟨g0,by rw [hll];exact g1,by rw [hll];exact g2,hu,fun _=>⟨row,_,hO,setRow_heap _ _ _ _ _ _ hw,by rw [hrs];exact hsz0,h1,hh⟩⟩
  rw [List.getElem?_set_ne hii] at hob;exact (R.h.objs i' ob hob).pres R.h.sane (by rw [<-R.h.nh];exact (zp2.1 hob).1) hpr (by simp;exact fun e=>hii e.symm) (by simp)
 ·have:=R.h.disj b ℓ f h;exact ⟨by simpa using this.1,this.2⟩
 ·intro t;exact (R.slots t).pres R.h.sane hpr (by simp) (fun _ _ _=>rfl) (fun t' e' _=>⟨rfl,fun j=>by simp⟩)
 ·intro t r'' off' ht;exact R.places t r'' off' ht
 refine ⟨R.df.1,fun x hx => ?_⟩;obtain ⟨r0,h1,h2,h3⟩:=R.df.2 x hx;exact ⟨r0,h1,h2,by rw [setRow_other _ _ _ _ (by rintro rfl;rw [hO] at h2;cases h2)];exact h3⟩
section
variable {P:Program} {T:a0i} (hT:TOk P T) {σ:St} {g:Nat->AV} {o:Oper} {ss:a1C} {h':Option (List Obj)} {H:List Obj} {an:Ann}
 (hg:Less g σ) (hgd : ∀ d,o.dst=some d->g d=σ.get d)
include hT hg hgd
theorem a8q {t:TypeId} {s:Nat} {yo:Operand} (hop:o.op = .store t (.tmp s) yo) {a0 k:Nat} {l:List D} {i:Int} {j:Nat} (hpt0 : ∀ {G:Gh} {a:Act} {w:World},Rel G σ a w->a.eval (.tmp s) = .pointer (some ⟨G.β (.o a0),i.toNat*k+j,none⟩)/\a0<G.nh/\0<=i) (hHi:σ.heap[a0]?=some (.gro k l)) {td:TD} (ht:T t=some td)
  {v:D} (hv:opD T g t yo=some v) (hdst:o.dst=none) (hpos:0<td.size) (hvl:v.cells.length=td.size) {y0:D} (hy0:l[i.toNat]?=some y0) {v':D}
  (hall:y0.cells.length=k->v'.cells.length=k/\j+td.size<=k/\(∀ q,q<k->v'.cells[q]?=if j<=q/\q<j+td.size then v.cells[q-j]? else y0.cells[q]?)) :
  a0f P σ o [] (some (σ.heap.set a0 (.gro k (l.set i.toNat v')))):=by
 have hnd : ∀ c,o.op ≠ .defer c:=by simp [hop]
 intro r n m G a w Q next hm R hn
 obtain ⟨hpt,hnh,hi0⟩:=hpt0 R;have hrv:=a0z hg R hv;have hlt:i.toNat<l.length:=(zp2.1 hy0).1;obtain ⟨_,q1,q2,hu,q3⟩:=R.h.objs a0 _ hHi;obtain ⟨cur,e,hO,hw,hs',h1,hh⟩:=q3 (by omega);obtain ⟨hv',hjk,hcells⟩:=hall (hu y0 (List.mem_of_getElem? hy0));have hk0:0<k:=by omega
 obtain ⟨hu',hl',hget⟩:=b0o hk0 hu hy0 hv';have hfl:=a0b hu;have hmul:i.toNat*k+k<=l.length*k:=by rw [<-Nat.succ_mul];exact Nat.mul_le_mul_right _ hlt
 have hmul2:l.length*k<=G.β (.o (a0+1))*k:=Nat.mul_le_mul_right _ q2;obtain ⟨hvs,hvc,hv1⟩:=hrv.cells;have hvs':(a.eval yo).cells.size=td.size:=by omega
 have hone : ∀ z∈(a.eval yo).cells.toList,z.oneCell'=true:=by
  intro z hz;obtain ⟨q,hq,rfl⟩:=List.mem_iff_getElem.1 hz;have hq1:q<(a.eval yo).cells.size:=by simpa using hq
  have:=hv1 q (by omega);simpa [Array.getD,hq1] using this
 have hrun:=a0Z hT ht hw (off:=i.toNat*k+j) (v:=a.eval yo) hvs' (by omega) hone;have hrow : ∀ q,q<(D.flat l).length->(rowOf cur (i.toNat*k+j) (a.eval yo).cells.toList).getD q Go.undef=if i.toNat*k+j<=q/\q<i.toNat*k+j+td.size then (a.eval yo).cells.getD (q-(i.toNat*k+j)) Go.undef else cur.getD q Go.undef:=by
  intro q hq;rw [a1x (by simp;omega)];simp only [Array.length_toList,hvs'];by_cases c1:q<i.toNat*k+j
  ·rw [if_pos c1,if_neg (by omega)]
  rw [if_neg c1];by_cases c2:q<i.toNat*k+j+td.size
  ·rw [if_pos c2,if_pos (by omega)];simp [List.getD,zp5]
  rw [if_neg c2,if_neg (by omega)]
 have each : ∀ (q:Nat) (hq:q<(D.flat (l.set i.toNat v')).length),RepD G.K (D.flat (l.set i.toNat v'))[q] ((rowOf cur (i.toNat*k+j) (a.eval yo).cells.toList).getD q Go.undef) /\
   ((rowOf cur (i.toNat*k+j) (a.eval yo).cells.toList).getD q Go.undef).oneCell'=true:=by
  intro q hq;have hg0:=hget q;rw [zp1 hq] at hg0;rw [hrow q (by omega)];by_cases c:i.toNat*k+j<=q/\q<i.toNat*k+j+td.size
  ·rw [if_pos c];rw [if_pos (by omega),hcells _ (by omega),if_pos (by omega)] at hg0;rw [show q-i.toNat*k-j=q-(i.toNat*k+j) by omega,zp1 (by omega)] at hg0;rw [Option.some.inj hg0];exact ⟨hvc _ (by omega),hv1 _ (by omega)⟩
  rw [if_neg c];have hold:(D.flat (l.set i.toNat v'))[q]=(D.flat l)[q]'(by omega):=by
   by_cases c2:i.toNat*k<=q/\q<i.toNat*k+k
   ·rw [if_pos c2,hcells _ (by omega),if_neg (by omega)] at hg0;have:=a0H hu hy0 (q-i.toNat*k) (by omega);rw [show i.toNat*k+(q-i.toNat*k)=q by omega,zp1 (by omega)] at this;rw [<-this] at hg0;exact Option.some.inj hg0
   rw [if_neg c2,zp1 (by omega)] at hg0;exact Option.some.inj hg0
  rw [hold];exact ⟨hh q (by omega),h1 q (by omega)⟩
 obtain ⟨hcore,hext⟩:=a7k R hHi (by omega) hw (l':=l.set i.toNat v') (row:=rowOf cur (i.toNat*k+j) (a.eval yo).cells.toList) (by simp) hu' (a0X (by simp;omega)) (fun q hq=>(each q hq).2) (fun q hq=>(each q hq).1);refine a1P hnd (w':=w.setRow (G.β (.o a0)) (rowOf cur (i.toNat*k+j) (a.eval yo).cells.toList)) (by simp [execOp,hop,hpt,Instr.storeAt,Instr.sureAddr,hrun]) (hn G _ _ ?_ (hext m));rw [hdst];simpa [Act.put] using hcore
theorem b0q {t:TypeId} {s:Nat} {yo:Operand} (hop:o.op = .store t (.tmp s) yo) {a0 k:Nat} {l:List D} {i:Int} {j:Nat} (hs:g s = .eptr a0 k i j) (hHi:σ.heap[a0]?=some (.gro k l)) {td:TD} (ht:T t=some td)
  {v:D} (hv:opD T g t yo=some v) (hdst:o.dst=none) (hpos:0<td.size) (hvl:v.cells.length=td.size) {y0:D} (hy0:l[i.toNat]?=some y0) {v':D}
  (hall:y0.cells.length=k->v'.cells.length=k/\j+td.size<=k/\(∀ q,q<k->v'.cells[q]?=if j<=q/\q<j+td.size then v.cells[q-j]? else y0.cells[q]?)) :
  a0f P σ o [] (some (σ.heap.set a0 (.gro k (l.set i.toNat v')))) :=
 a8q hT hg hgd hop (fun R=>eptr_val hg R (x := .tmp s) hs) hHi ht hv hdst hpos hvl hy0 hall
theorem b3i {t:TypeId} {s q:Nat} (hop:o.op = .store t (.tmp s) (.tmp q)) {a0 off k:Nat} {l:List D} {cs:List AV} (hs:g s = .ptr a0 off) (hq:g q = .fresh k l) (hHi:σ.heap[a0]?=some (.cells cs)) {td:TD} (ht:T t=some td)
  (hsz:td.size=1) (hoff:off<cs.length) (hdst:o.dst=none):a0f P σ o [(q,.undef)] (some (σ.heap.set a0 (.cells (cs.set off (.fresh k l))))):=by
 have hnd : ∀ c,o.op ≠ .defer c:=by simp [hop]
 intro r n m G a w Q next hm R hn
 obtain ⟨hpt,hnh⟩:=b3h hg R hs;have hsg:σ.get q = .fresh k l:=(hg.eq hq (by simp));obtain ⟨R1,hrep1⟩:=R.giveF hsg (.oc a0 off) (by simp [Loc.root]);obtain ⟨cur,e,hO,hw,hs',hh,hcc⟩:=R1.h.objs a0 _ hHi;have hval:a.eval (.tmp q)=a.tmps.getD q Go.undef:=rfl;generalize hvv:a.tmps.getD q Go.undef=vv at hrep1;have hcells:vv.cells = #[vv]:=by
  cases hrep1 with | fresh _ _ _ _ hr =>
  obtain ⟨p,cap,rfl,_⟩:=hr;rfl
 have hcore:=a2k R1 (off:=off) (nv:=[.fresh k l]) (vs:=[vv]) hHi hw (by simp;omega) rfl
  (fun j hj=>by simp at hj;subst hj;simpa using hrep1) (by simp [AV.isCell])
 have hone : ∀ x∈vv.cells.toList,x.oneCell'=true:=by
  rw [hcells];simp;exact hrep1.oneCell rfl
 have hrun:=a0Z hT ht hw (off:=off) (v:=vv) (by rw [hcells];simp [hsz]) (by omega) hone;have hβ:(G.move (.s q) (.oc a0 off)).β=G.β:=rfl;rw [hβ] at hrun hcore hO;refine a1P hnd (w':=w.setRow (G.β (.o a0)) (rowOf cur off vv.cells.toList)) (by simp [execOp,hop,hpt,Instr.storeAt,Instr.sureAddr,hval,hvv,hrun]) (hn _ _ _ ?_ ((Ext.move m G w _ _).trans (Ext.setRow hO _)));rw [hdst,hcells];have hcore':=hcore;simp only [show (σ.upd [(q,AV.undef)] none).heap=σ.heap from rfl] at hcore';rw [b0k] at hcore';have hset:a0Q cs off [AV.fresh k l]=cs.set off (.fresh k l):=by
  simp only [a0Q,List.length_singleton];rw [List.set_eq_take_append_cons_drop,if_pos hoff];simp
 rw [hset] at hcore';simpa [Act.put] using hcore'
theorem b5y {t:TypeId} {s:Nat} {hi:Operand} (hop:o.op = .slice t (.tmp s) none (some hi) none) {a0 k:Nat} {l:List D} (hs:g s = .gref a0 k) (hHi:σ.heap[a0]?=some (.gro k l)) {z:Int}
  (hes:a0h T t=some k) (hb:bound g T 0 (some hi)=some z) (hz0:0<=z) (hz1:z<=(l.length:Int)) {d:Nat} (hdst:o.dst=some d) (hlt:d<σ.n) (hbx:(g d).isBox=false) :
  a0f P σ o [(d,.fresh k (Ar.std.sub l 0 z))] (some (σ.heap.set a0 .dead)):=by
 have hnd : ∀ c,o.op ≠ .defer c:=by simp [hop]
 obtain ⟨sz,e,zz,td,ht,hte,rfl⟩:=a0l hes;intro r n m G a w Q next hm R hn
 obtain ⟨p,hv,hnh,hle,hp⟩:=a4h hg R hs;obtain ⟨_,q1,q2,hu,q3⟩:=R.h.objs a0 _ hHi;obtain ⟨nz,rfl⟩:=zp9 hz0;obtain ⟨kk,e1⟩:=a0D hg hb R;have hsub:Ar.std.sub l 0 (nz:Int)=l.take nz:=by simp [Ar.std]
 rw [hsub] at hn;have hlen:(l.take nz).length=nz:=by simp;omega
 have hrun0:=a0J (P:=P) (w:=w) (len:=G.β (.o (a0+2))) (cap:=G.β (.o (a0+1))) (nl:=0) (nh:=nz) (m:=G.β (.o (a0+1))) (low:=none) (high:=some (a.eval hi)) (max:=none)
  (.inl ⟨rfl,rfl⟩) (.inr ⟨kk,by rw [e1]⟩) (.inl ⟨rfl,rfl⟩) (Nat.zero_le _) (by omega) (Nat.le_refl _)
 have hrun:(execOp a.eval o).run P w = .ok (.value (.slice p nz (G.β (.o (a0+1))))) w:=by
  by_cases hc:G.β (.o (a0+1))=0
  ·rw [hc] at hrun0 hv ⊢;simp [execOp,hop,Instr.sliceAt,Instr.slice,Go.underlying,hT.slice ht,hv,hrun0,hT.size hte]
  obtain rfl:=hp (by omega);simp [execOp,hop,Instr.sliceAt,Instr.slice,Go.underlying,hT.slice ht,hv,hrun0,hT.size hte,hc,Addr.add_none]
 have R1:=R.kill a0;have hdead:lets { σ with heap:=σ.heap.set a0 .dead } (.o a0):=by
  simp only [lets];rw [List.getElem?_set_self (zp2.1 hHi).1]
 obtain ⟨R2,hext,hrep⟩:=R1.toLoc (.s d) (by simp [Loc.root]) (w':=w) (k:=td.size) (l:=l.take nz) (cap:=G.β (.o (a0+1))) (b:=G.β (.o a0)) (p:=p) hp (fun x hx=>hu x (List.mem_of_mem_take hx)) (by rw [hlen];omega) (Nat.le_refl _)
  ⟨rfl,rfl,fun _ _=>rfl,rfl,Nat.le_refl _⟩ (fun _ _ _=>rfl) (fun hc=>by
   obtain ⟨vs,e',h1,h2,h3,h4,h5⟩:=q3 hc;refine ⟨(Array.getElem?_eq_some_iff.1 h2).1,.inr ⟨_,h1,hdead⟩,vs,e',h2,h3,fun j hj=>h4 j ?_,fun j hj => ?_⟩
   ·rw [a1g hu] at hj;simp at hj;omega
   have hj':j<(D.flat l).length:=by rw [a1g hu] at hj;simp at hj;omega
   have:=h5 j hj';have e2:(D.flat (l.take nz))[j]=(D.flat l)[j]:=by
    have:(D.flat (l.take nz))[j]?=(D.flat l)[j]?:=by
     rw [a1g hu];rw [a1g hu] at hj;simp at hj;exact List.getElem?_take_of_lt (by omega)
    rw [zp1 hj,zp1 hj'] at this;exact Option.some.inj this
   rw [e2];exact this)
 rw [hlen] at hrep;refine a0y hnd hrun (hn _ _ _ ?_ (hext m hm));rw [hdst];have:=R2.put (d:=d) (.fresh _ _ _ _ hrep) (fun r off e=>by cases e) (by show (σ.get d).isBox=false;rw [<-hgd d hdst];exact hbx) hlt;simpa [St.upd,a0r] using this
theorem a8r {s d k1:Nat} {y:Operand} {t u:TypeId} {l ys:List D} (hop:o.op = .call { callee := .builtin .append,args := #[.tmp s,y],argTypes := #[t,u] }) (ht:a0h T t=some k1) (hu':a0h T u=some k1) (hsrc : ∀ {G:Gh} {a:Act} {w:World},Rel G σ a w->a0k k1 ys/\(∃ b cap,a.eval y = .slice b ys.length cap) /\ ∀ w':World,w'.heap=w.heap -> ∃ arr:Array Value,(Builtin.firstCells k1 ys.length (a.eval y)).run P w' = .ok arr w'/\arr.size=(D.flat ys).length /\
   ∀ (q:Nat) (hq:q<(D.flat ys).length),RepD G.K (D.flat ys)[q] (arr.getD q Go.undef)/\(arr.getD q Go.undef).oneCell'=true) (hdst:o.dst=some d)
  (_:0<k1) (hlt:d<σ.n) (hbx:(g d).isBox=false) (hfits:(l.length:Int)+ys.length<4294967296) {σ1:St} (h1n:σ1.n=σ.n) (h1b:(σ1.get d).isBox=false)
  (hold : ∀ G a w,Rel G σ a w->Rel G σ1 a w/\a0k k1 l /\ ∃ p cs b,a.eval (.tmp s) = .slice p l.length cs/\l.length<=cs/\(0<cs->p=some ⟨b,0,none⟩) /\
   (0<cs -> ∃ ℓ0 cur e,G.O b=some (ℓ0,0)/\lets σ1 ℓ0/\w.heap[b]?=some (.cells cur e (0,0))/\cs*k1<=cur.size/\(∀ j,j<(D.flat l).length->(cur.getD j Go.undef).oneCell'=true) /\ ∀ (j:Nat) (hj:j<(D.flat l).length),RepD G.K (D.flat l)[j] (cur.getD j Go.undef))) :
  ∀ (r:Option Nat) (n m:Nat) (G:Gh) (a:Act) (w:World) (Q:Exit->Act->World->Prop) (next:Act->World->Prop),m<=G.nh->Rel G σ a w ->
    (∀ G' a' w',Rel G' { σ1 with env:=a2A σ1.env d (.fresh k1 (l++ys)) } a' w'->Ext m G w G' w'->next a' w')->o.wpIn (Wd r) n P a w next Q:=by
 have hnd : ∀ c,o.op ≠ .defer c:=by simp [hop]
 obtain ⟨sz,e,zz,td,hTt,hTe,hks⟩:=a0l ht;obtain ⟨sz1,e1,zz1,td1,hTt1,hTe1,hks1⟩:=a0l hu';obtain ⟨ie,dd,hie,hdd,hsz,hbytes,huok,z0,hz,hzs,hzl,hzc⟩:=hT.info hTe;intro r n m G a w Q next hm R hn
 obtain ⟨R1,hul,p,cs,b,hsv,hlc,hpb,hblk⟩:=hold G a w R;obtain ⟨f3,hyl,hfc⟩:=hsrc R;obtain ⟨arrY,f1,f2,f4⟩:=hfc w rfl;obtain ⟨by',cy,hyv⟩:=hyl;rw [hyv] at f1;have hfl:=a0b hul;have hfy:=a0b f3;have huni:a0k k1 (l++ys):=fun x hx=>by rcases List.mem_append.1 hx with hx | hx;exact hul x hx;exact f3 x hx
 have hdl:d<σ1.n:=by rw [h1n];exact hlt

 have fin : ∀ (b' cap':Nat) (v:Value) (w':World),(execOp a.eval o).run P w = .ok (.value v) w'->Rel (G.give b' cap' (.s d)) σ1 a w'/\(∀ m,m<=G.nh->Ext m G w (G.give b' cap' (.s d)) w') /\
   a6X (G.give b' cap' (.s d)) w' (.s d) k1 (l++ys) v->o.wpIn (Wd r) n P a w next Q:=by
  rintro b' cap' v w' hrun ⟨R2,hext,hrep⟩;refine a0y hnd hrun (hn _ _ _ ?_ (hext m hm));rw [hdst];have:=R2.put (d:=d) (.fresh _ _ _ _ hrep) (fun r off e=>by cases e) h1b hdl;simpa [St.upd,a0r] using this
 by_cases hcap:l.length+ys.length<=cs
 ·by_cases hy0:ys=[]
  ·subst hy0;have harr:arrY = #[]:=Array.eq_empty_of_size_eq_zero (by simpa [D.flat] using f2);subst harr;have hrun:(execOp a.eval o).run P w = .ok (.value (.slice p l.length cs)) w:=by
    have hcap':l.length<=cs:=by simpa using hcap
    simp at f1;cases p with
    | none=>simp [execOp,hop,resolve,invoke,Go.builtin,Builtin.append_,hsv,hyv,Go.underlying,hT.slice hTt,hT.slice hTt1,hT.size hTe,Builtin.lenOf,hks,f1,hcap']
    | some b=>simp [execOp,hop,resolve,invoke,Go.builtin,Builtin.append_,hsv,hyv,Go.underlying,hT.slice hTt,hT.slice hTt1,hT.size hTe,Builtin.lenOf,hks,f1,hcap',storeCells]
   refine fin b cs _ _ hrun ?_;simp only [List.append_nil];exact R1.toLoc (.s d) (by simp [Loc.root]) (w':=w) hpb hul hlc (Nat.le_refl _) ⟨rfl,rfl,fun _ _=>rfl,rfl,Nat.le_refl _⟩ (fun _ _ _=>rfl) (fun hc=>by
    obtain ⟨ℓ0,cur,ec,h1,h2,h3,h4,h5,h6⟩:=hblk hc;exact ⟨(Array.getElem?_eq_some_iff.1 h3).1,.inr ⟨ℓ0,h1,h2⟩,cur,ec,h3,h4,h5,h6⟩)
  have hyp:0<ys.length:=List.length_pos_iff.2 hy0;obtain rfl:=hpb (by omega);obtain ⟨ℓ0,cur,ec,h1,h2,h3,h4,h5,h6⟩:=hblk (by omega);have hlen:arrY.toList.length=ys.length*k1:=by rw [<-hfy];simpa using f2
  have hmul:(l.length+ys.length)*k1<=cs*k1:=Nat.mul_le_mul_right k1 hcap;rw [Nat.add_mul] at hmul;have hst:=run_storeCells_at P b (0+l.length*k1) ec arrY.toList 0 cur w h3 (by omega) (fun v hv=>by
   obtain ⟨q,hq,rfl⟩:=List.mem_iff_getElem.1 hv;have:=(f4 q (by simp at hq;omega)).2;have hq':q<arrY.size:=by simpa using hq
   simpa [Array.getD,hq'] using this)
  have hrs:(0+l.length*k1)+arrY.toList.length<=cur.size:=by omega
  have hrun:(execOp a.eval o).run P w = .ok (.value (.slice (some ⟨b,0,none⟩) (l.length+ys.length) cs)) (w.setRow b (rowOf cur (0+l.length*k1) arrY.toList)):=by
   simp only [Nat.add_zero] at hst;simp [execOp,hop,resolve,invoke,Go.builtin,Builtin.append_,hsv,hyv,Go.underlying,hT.slice hTt,hT.slice hTt1,hT.size hTe,Builtin.lenOf,hks,f1,hcap,Addr.add_none];simp only [Nat.zero_add] at hst ⊢;simp [hst,rowOf]
  refine fin b cs _ _ hrun ?_;have key:=R1.toLoc (.s d) (by simp [Loc.root]) (w':=w.setRow b (rowOf cur (0+l.length*k1) arrY.toList)) (k:=k1) (l:=l++ys) (cap:=cs) (b:=b) (p:=some ⟨b,0,none⟩) (fun _=>rfl) huni (by simpa using hcap) (by simp)
   ⟨rfl,rfl,fun ad _=>a2t _ _ _ ad,rfl,Nat.le_refl _⟩ (fun b' hb' hne=>setRow_other _ _ _ _ (hne (by omega))) (fun hc=>by
    refine ⟨by simpa using (Array.getElem?_eq_some_iff.1 h3).1,.inr ⟨ℓ0,h1,h2⟩,_,ec,setRow_heap _ _ _ _ _ _ h3,by rw [a0X hrs];exact h4,?_⟩;have each : ∀ (q:Nat) (hq:q<(D.flat (l++ys)).length),RepD G.K (D.flat (l++ys))[q] ((rowOf cur (0+l.length*k1) arrY.toList).getD q Go.undef)/\((rowOf cur (0+l.length*k1) arrY.toList).getD q Go.undef).oneCell'=true:=by
     intro q hq;rw [a1x hrs];simp only [a0C] at hq ⊢;simp only [List.length_append] at hq;by_cases c1:q<0+l.length*k1
     ·rw [if_pos c1,List.getElem_append_left (by omega)];exact ⟨h6 q (by omega),h5 q (by omega)⟩
     rw [if_neg c1,if_pos (by omega),List.getElem_append_right (by omega)];have:=f4 (q-(D.flat l).length) (by omega);have e0:arrY.toList.getD (q-(0+l.length*k1)) Go.undef=arrY.getD (q-(D.flat l).length) Go.undef:=by
      rw [hfl,Nat.zero_add];simp [List.getD,zp5]
     rw [e0];exact this
    exact ⟨fun q hq=>(each q hq).2,fun q hq=>(each q hq).1⟩)
  simpa using key
 have hneed:l.length+ys.length<4294967296:=by omega
 have hbig : ¬ Builtin.nextslicecap (l.length+ys.length) cs*ie.bytes>2 ^ 48:=by
  have h1:=a2u (need:=l.length+ys.length) (cap:=cs) (by omega);have h2:Builtin.nextslicecap (l.length+ys.length) cs*ie.bytes<=(2*(l.length+ys.length)+200)*4096:=Nat.mul_le_mul h1 hbytes;omega
 let qn:=Question.appendCap (l.length+ys.length) cs e;let nc:=qn.cut (w.tape w.drawn qn);let wd:=w.drew;have hwd:wd.heap=w.heap:=rfl;have hnc:l.length+ys.length<=nc:=by simp [nc,qn,Question.cut]
 let rest:=Builtin.zeroCells z0.cells (nc-(l.length+ys.length));have hrest:rest.size=(nc-(l.length+ys.length))*k1:=by simp [rest,Builtin.zeroCells,hzs,hks]
 have hkd : ∀ x v,G.K x=some v->wd.cell? x=some v:=by
  intro x v hx;have:=R.h.kept x v hx;unfold World.cell? at *
  rwa [hwd]
 obtain ⟨arrY,f1,f2,f4⟩:=hfc wd hwd;rw [hyv] at f1;obtain ⟨arrS,s1,s2,s4⟩ : ∃ arrS:Array Value,(Builtin.firstCells k1 l.length (Value.slice p l.length cs)).run P wd = .ok arrS wd/\arrS.size=(D.flat l).length /\ ∀ (q:Nat) (hq:q<(D.flat l).length),RepD G.K (D.flat l)[q] (arrS.getD q Go.undef)/\(arrS.getD q Go.undef).oneCell'=true:=by
  rcases Nat.eq_zero_or_pos cs with hc | hc
  ·subst hc;have hl0:l=[]:=List.eq_nil_of_length_eq_zero (by omega);subst hl0;refine ⟨#[],?_,rfl,fun q hq=>by simp [D.flat] at hq⟩;cases p with
   | none=>simp [Builtin.firstCells]
   | some x=>simp [Builtin.firstCells,loadCells,loadCellsFrom]
  obtain rfl:=hpb hc;obtain ⟨ℓ0,cur,ec,h1,h2,h3,h4,h5,h6⟩:=hblk hc;have hmul:l.length*k1<=cs*k1:=Nat.mul_le_mul_right _ hlc;refine ⟨_,a3Q (P:=P) (w:=wd) (cap:=cs) (by rw [hwd];exact h3) (by omega),by simp [hfl],fun q hq => ?_⟩;have:((List.range (l.length*k1)).map fun j=>cur.getD j Go.undef).toArray.getD q Go.undef=cur.getD q Go.undef:=by
   simp [show q<l.length*k1 by omega]
  rw [this];exact ⟨h6 q hq,h5 q hq⟩
 have hrun:(execOp a.eval o).run P w = .ok (.value (.slice (some ⟨w.heap.size,0,none⟩) (l.length+ys.length) nc)) (wd.alloc (.cells (arrS++arrY++rest) e)):=by
  have hcap' : ¬ l.length+ys.length<=cs:=hcap;have key:(Builtin.append_ #[t,u] o.type #[.slice p l.length cs,a.eval y]).run P w = .ok (.slice (some ⟨w.heap.size,0,none⟩) (l.length+ys.length) nc) (wd.alloc (.cells (arrS++arrY++rest) e)):=by
   unfold Builtin.append_;simp [Go.underlying,hT.slice hTt,hT.slice hTt1,hT.size hTe,Builtin.lenOf,hyv,hcap',hks,typeInfo,hie,hbig];have hmax' : ¬ ((9223372036854775807:Int)<(l.length:Int)+(ys.length:Int)/\ie.bytes=0):=by
    intro hh;omega
   rw [if_neg hmax'];have hforced':(Question.appendCap (l.length+ys.length) cs e).forced=false:=rfl;simp only [hforced',Bool.false_eq_true,if_false];rw [show (Builtin.firstCells k1 l.length (Value.slice p l.length cs)).run P w.drew=_ from s1];simp only [Result.andThen_ok];rw [show (Builtin.firstCells k1 ys.length (Value.slice by' ys.length cy)).run P w.drew=_ from f1];simp only [Result.andThen_ok,zeroValue,typeInfo,Sem.run_bind,run_program,hie,hz,Sem.run_pure,newRow,run_newObj];simp [rest,nc,qn,wd]
   rfl
  simp only [execOp,hop,resolve,invoke,Go.builtin,Sem.run_bind,Sem.run_pure,Result.andThen_ok];simp [hsv,key]
 have hnew:(wd.alloc (.cells (arrS++arrY++rest) e)).heap[w.heap.size]?=some (.cells (arrS++arrY++rest) e (0,0)):=heap_alloc_new (w:=wd);refine fin w.heap.size nc _ _ hrun ?_;have key:=R1.toLoc (.s d) (by simp [Loc.root]) (w':=wd.alloc (.cells (arrS++arrY++rest) e)) (k:=k1) (l:=l++ys) (cap:=nc) (b:=w.heap.size) (p:=some ⟨w.heap.size,0,none⟩) (fun _=>rfl) huni (by simpa using hnc) (by simp [wd])
  ⟨rfl,rfl,fun ad _=>(frozen?_alloc_new _ _ (fun _ _ _ e=>by cases e;rfl) ad).trans rfl,rfl,Nat.le_succ _⟩ (fun b' hb' _=>a0o (w:=wd) hb') (fun _=>by
   refine ⟨by simp [wd],.inl (Nat.le_refl _),_,e,hnew,?_,?_⟩
   ·have:(arrS++arrY++rest).size=nc*k1:=by
     simp only [Array.size_append,s2,f2,hfl,hfy,hrest];rw [<-Nat.add_mul,<-Nat.add_mul];congr 1;omega
    omega
   have each : ∀ (q:Nat) (hq:q<(D.flat (l++ys)).length),RepD G.K (D.flat (l++ys))[q] ((arrS++arrY++rest).getD q Go.undef)/\((arrS++arrY++rest).getD q Go.undef).oneCell'=true:=by
    intro q hq;simp only [a0C] at hq ⊢;have e0:(arrS++arrY++rest).getD q Go.undef=if q<arrS.size then arrS.getD q Go.undef else arrY.getD (q-arrS.size) Go.undef:=by
     simp only [List.length_append] at hq;simp only [zp5];split
     ·rename_i hq1;rw [Array.getElem?_append_left (by simp;omega),Array.getElem?_append_left hq1]
     rename_i hq1;rw [Array.getElem?_append_left (by simp;omega),Array.getElem?_append_right (by omega)]
    rw [e0];by_cases hq1:q<arrS.size
    ·rw [if_pos hq1,List.getElem_append_left (by omega)];exact s4 q (by omega)
    rw [if_neg hq1,List.getElem_append_right (by omega)];have:=f4 (q-arrS.size) (by simp at hq;omega);simpa [s2] using this
   exact ⟨fun q hq=>(each q hq).2,fun q hq=>(each q hq).1⟩)
 simpa using key
theorem b3j {s d k1:Nat} {y:Operand} {t u:TypeId} {l ys:List D} (hop:o.op = .call { callee := .builtin .append,args := #[.tmp s,y],argTypes := #[t,u] }) {a0:Nat} (hs:g s = .gref a0 k1) (hHi:σ.heap[a0]?=some (.gro k1 l))
  (ht:a0h T t=some k1) (hu':a0h T u=some k1) (hy:a2B T g u y=some (k1,ys)) (hdst:o.dst=some d) (hk:0<k1) (hlt:d<σ.n) (hbx:(g d).isBox=false) (hfits:(l.length:Int)+ys.length<4294967296) :
  a0f P σ o [(d,.fresh k1 (l++ys))] (some (σ.heap.set a0 .dead)):=by
 intro r n m G a w Q next hm R hn
 refine a8r hT hg hgd (σ1:={ σ with heap:=σ.heap.set a0 .dead }) hop ht hu' (fun R=>a3D hg hy R) hdst hk hlt hbx hfits rfl (by show (σ.get d).isBox=false;rw [<-hgd d hdst];exact hbx) (fun G a w R => ?_) r n m G a w Q next hm R (fun G' a' w' R' hE=>hn G' a' w' (by simpa [St.upd,a0r] using R') hE)
 obtain ⟨p,hv,hnh,hle,hp⟩:=a4h hg R hs;obtain ⟨_,q1,q2,hu,q3⟩:=R.h.objs a0 _ hHi;refine ⟨R.kill a0,hu,p,G.β (.o (a0+1)),G.β (.o a0),by rw [hv,q1],q2,hp,fun hc => ?_⟩;obtain ⟨vs,e,h1,h2,h3,h4,h5⟩:=q3 hc;refine ⟨.o a0,vs,e,h1,?_,h2,h3,h4,h5⟩;simp only [lets];rw [List.getElem?_set_self (zp2.1 hHi).1]
theorem b5z {y k:Nat} {a0:Nat} {l:List D} (hy:g y = .gref a0 k) (hHi:σ.heap[a0]?=some (.gro k l)) {G:Gh} {a:Act} {w:World} (R:Rel G σ a w) :
  a0k k l/\(∃ b cap,a.eval (.tmp y) = .slice b l.length cap) /\ ∀ w':World,w'.heap=w.heap -> ∃ arr:Array Value,(Builtin.firstCells k l.length (a.eval (.tmp y))).run P w' = .ok arr w'/\arr.size=(D.flat l).length /\
   ∀ (q:Nat) (hq:q<(D.flat l).length),RepD G.K (D.flat l)[q] (arr.getD q Go.undef)/\(arr.getD q Go.undef).oneCell'=true:=by
 obtain ⟨p,hv,hnh,hle,hp⟩:=a4h hg R hy;obtain ⟨_,hln,hlc,hu,hrow⟩:=R.h.objs a0 _ hHi;have hfl:=a0b hu;rw [<-hln] at hv;refine ⟨hu,⟨p,_,hv⟩,fun w' hw' => ?_⟩;rw [hv];rcases Nat.eq_zero_or_pos l.length with h0 | h0
 ·rw [h0];refine ⟨#[],by cases p <;> simp [Builtin.firstCells,loadCells,loadCellsFrom],?_,fun q hq => ?_⟩
  ·rw [hfl,h0];simp
  rw [hfl,h0] at hq;omega
 have hc:0<G.β (.o (a0+1)):=by omega
 obtain ⟨vs,e,hO,hw,hsz,hone,hh⟩:=hrow hc;have hmul:l.length*k<=vs.size:=Nat.le_trans (Nat.mul_le_mul_right _ hlc) hsz;rw [hp hc,a3Q (P:=P) (w:=w') (by rw [hw'];exact hw) hmul];refine ⟨_,rfl,by simp [hfl],fun q hq => ?_⟩;have hq':q<l.length*k:=by rw [<-hfl];exact hq
 have e1:((List.range (l.length*k)).map fun j=>vs.getD j Go.undef).toArray.getD q Go.undef=vs.getD q Go.undef:=by
  simp [hq']
 rw [e1];exact ⟨hh q hq,hone q hq⟩
theorem b3k {H:List Obj} {y:Operand} {k1:Nat} {u:TypeId} {ys:List D} (hH:(∃ i a k,y = .tmp i/\g i = .gref a k)->H=σ.heap) (hy:b7T T g H u y=some (k1,ys)) {G:Gh} {a:Act} {w:World} (R:Rel G σ a w) :
  a0k k1 ys/\(∃ b cap,a.eval y = .slice b ys.length cap) /\ ∀ w':World,w'.heap=w.heap -> ∃ arr:Array Value,(Builtin.firstCells k1 ys.length (a.eval y)).run P w' = .ok arr w'/\arr.size=(D.flat ys).length /\
   ∀ (q:Nat) (hq:q<(D.flat ys).length),RepD G.K (D.flat ys)[q] (arr.getD q Go.undef)/\(arr.getD q Go.undef).oneCell'=true:=by
 unfold b7T at hy;split at hy
 ·rename_i a0 k hs;cases y with
  | tmp i =>
    have hs:g i = .gref a0 k:=hs;have:=hH ⟨i,a0,k,rfl,hs⟩;subst this;split at hy
    ·rename_i k' l hHi;split at hy
     ·rename_i hk;subst hk;cases hy;exact b5z hT hg hgd hs hHi R
     cases hy
    cases hy
  | _=>cases hs
 exact a3D hg hy R
theorem b1Y {s d k1:Nat} {y:Operand} {t u:TypeId} {ys:List D} (hop:o.op = .call { callee := .builtin .append,args := #[.tmp s,y],argTypes := #[t,u] }) (hs:(g s).emptyOf=some k1)
  (ht:a0h T t=some k1) (hu':a0h T u=some k1) (hsrc : ∀ {G:Gh} {a:Act} {w:World},Rel G σ a w->a0k k1 ys/\(∃ b cap,a.eval y = .slice b ys.length cap) /\ ∀ w':World,w'.heap=w.heap -> ∃ arr:Array Value,(Builtin.firstCells k1 ys.length (a.eval y)).run P w' = .ok arr w'/\arr.size=(D.flat ys).length /\
   ∀ (q:Nat) (hq:q<(D.flat ys).length),RepD G.K (D.flat ys)[q] (arr.getD q Go.undef)/\(arr.getD q Go.undef).oneCell'=true) (hdst:o.dst=some d) (hk:0<k1) (hlt:d<σ.n) (hbx:(g d).isBox=false) (hsd : ¬ s=d) (hfits:(ys.length:Int)<4294967296) :
  a0f P σ o [(s,.d (.list k1 [])),(d,.fresh k1 ys)] none:=by
 have hs':σ.get s = .own k1 []\/σ.get s = .lim k1 []:=by
  have hne:g s ≠ .undef:=by intro h;rw [h] at hs;cases hs
  have e:σ.get s=g s:=hg.eq rfl hne;rw [e];unfold AV.emptyOf at hs;split at hs
  ·rename_i h;cases hs;exact .inl h
  ·rename_i h;cases hs;exact .inr h
  cases hs
 have hdb:(σ.get d).isBox=false:=by rw [<-hgd d hdst];exact hbx
 intro r n m G a w Q next hm R hn
 refine a8r hT hg hgd (σ1:=σ.upd [(s,.d (.list k1 []))] none) (l:=[]) hop ht hu' hsrc hdst hk hlt hbx (by simpa using hfits) rfl ?_ (fun G a w R => ?_) r n m G a w Q next hm R (fun G' a' w' R' hE=>hn G' a' w' (by simpa [St.upd,a0r] using R') hE)
 ·simp only [St.upd,St.get,a0r,List.foldl_cons,List.foldl_nil,a0d,if_neg hsd];exact hdb
 have R1:=R.demote (s:=s) (k:=k1) (l:=[]) (by rcases hs' with h | h;exact .inl h;exact .inr (.inl h))
 have hrep:=R.slots s;refine ⟨R1,fun x hx=>by simp at hx,?_⟩;show ∃ p cs b,a.tmps.getD s Go.undef=_/\_;generalize hsv:a.tmps.getD s Go.undef=sv at hrep;rcases hs' with h | h
 ·rw [h] at hrep;cases hrep with | own _ _ _ _ hr ht =>
  have hsl : ∃ p cap,sv = .slice p 0 cap:=by
   rcases hr.slice with ⟨_,oa,hv⟩ | ⟨b,off,cap,hv⟩
   ·exact ⟨_,_,hv⟩
   exact ⟨_,_,hv⟩
  obtain ⟨p,cap,rfl⟩:=hsl;rcases Nat.eq_zero_or_pos cap with hc | hc
  ·exact ⟨p,cap,0,rfl,by simp,fun h=>by omega,fun h=>by omega⟩
  cases p with
  | none =>
    generalize hv':Value.slice none 0 cap=v at hr;cases hr with
    | nil=>simp at hv';omega
    | none0=>simp at hv'
    | list=>simp at hv'
  | some ad =>
    obtain ⟨f,c,e,h1,h2,h3,h4,h5⟩:=ht ad 0 cap rfl hc;have hspot:ad.spot=none:=by
     generalize hv':Value.slice (some ad) 0 cap=v at hr;cases hr with
     | nil=>simp at hv'
     | none0=>simp at hv';omega
     | list=>simp at hv';rw [hv'.1]
    have had:ad=⟨ad.block,0,none⟩:=by obtain ⟨x,y,z⟩:=ad;simp at hspot h5;simp [hspot,h5]
    have hf:f=0:=by rw [h5] at h2;simpa using h2
    subst hf;refine ⟨some ad,cap,ad.block,rfl,by simp,fun _=>by rw [<-had],fun _=>⟨.s s,c,e,h1,?_,h3,by rw [h5] at h4;simpa using h4,fun j hj=>by simp [D.flat] at hj,fun j hj=>by simp [D.flat] at hj⟩⟩;simp only [lets,St.upd,St.get,a0r,List.foldl_cons,List.foldl_nil,a0d,if_true]
    rfl
 rw [h] at hrep;cases hrep with | lim _ _ _ _ hr ht =>
 have hsl : ∃ p cap,sv = .slice p 0 cap:=by
  rcases hr.slice with ⟨_,oa,hv⟩ | ⟨b,off,cap,hv⟩
  ·exact ⟨_,_,hv⟩
  exact ⟨_,_,hv⟩
 obtain ⟨p,cap,rfl⟩:=hsl;have:=ht _ _ _ rfl;exact ⟨p,cap,0,rfl,by simp,fun h=>by omega,fun h=>by omega⟩
theorem b5A {t:TypeId} {cnt:Nat} {parts:Array (Nat×Operand)} (hop:o.op = .buildSlice t cnt parts) {d:Nat} (hdst:o.dst=some d) {sz e:Nat} {zz:List AV} (ht:T t=some { size:=sz,u := .slice e,zero:=zz }) {td:TD} (hte:T e=some td)
  (hps:parts.size=cnt) (hpos:0<td.size) (hbig:cnt*td.size<=4096) (hlt:d<σ.n) (hb:(g d).isBox=false) {l:List D} (hl:a3q Ar.std T g e td.size parts.toList 0=some l) :
  a0f P σ o [(d,.gref σ.heap.length td.size)] (some (σ.heap++[.gro td.size l,.dead,.dead])):=by
 have hnd : ∀ c,o.op ≠ .defer c:=by simp [hop]
 intro r n m G a w Q next hm R hn
 obtain ⟨cells',hu,hsz,hrun,each⟩:=b2Y hT hg hop ht hte hps hpos hbig hl R;have hfl:=a0b hu;obtain ⟨R2,hext,hrep⟩:=R.toGro (w':=w.alloc (.cells cells' e)) (k:=td.size) (l:=l) (cap:=l.length) (b:=w.heap.size) (p:=some ⟨w.heap.size,0,none⟩) (fun _=>rfl) hu (Nat.le_refl _) (by simp)
  ⟨rfl,rfl,fun ad _=>frozen?_alloc_new _ _ (fun _ _ _ e=>by cases e;rfl) ad,rfl,Nat.le_refl _⟩ (fun b' hb' _=>a0o hb') (fun _ =>
   ⟨by simp,.inl (Nat.le_refl _),_,e,heap_alloc_new,by omega,fun q hq=>(each q hq).2,fun q hq=>(each q hq).1⟩)
 refine a0y hnd hrun (hn _ _ _ ?_ (hext m hm));rw [hdst];have:=R2.put (d:=d) (hrep _) (fun r off e=>by cases e) (by show (σ.get d).isBox=false;rw [<-hgd d hdst];exact hb) hlt;simpa [St.upd,a0r] using this
theorem b3l {t:TypeId} {ln cp:Operand} (hop:o.op = .makeSlice t ln cp) {d:Nat} (hdst:o.dst=some d) {sz e:Nat} {zz:List AV} (ht:T t=some { size:=sz,u := .slice e,zero:=zz }) {td:TD} (hte:T e=some td) {kz kz':IntKind} {z z':Int}
  (hln:opD T g 0 ln=some (.int kz z)) (hcp:opD T g 0 cp=some (.int kz' z')) {y:D} (hy:a6p td=some y) (hlt:d<σ.n) (hb:(g d).isBox=false) (hpos:0<td.size) (hz0:0<=z) (hzz:z<=z') (hfit:z'<4294967296) :
  a0f P σ o [(d,.gref σ.heap.length td.size)] (some (σ.heap++[.gro td.size (Ar.std.rep z y),.dead,.dead])):=by
 have hnd : ∀ c,o.op ≠ .defer c:=by simp [hop]
 intro r n m G a w Q next hm R hn
 have h1:=a0z hg R hln;have h2:=a0z hg R hcp;obtain ⟨ie,de,hie,hde,hisz,hbytes,_⟩:=hT.info hte;obtain ⟨z0,hz0',hz0s,hyl,hzr⟩:=a5j hT hte hy hie;obtain ⟨N,rfl⟩:=zp9 hz0;obtain ⟨M,rfl⟩:=zp9 (show 0<=z' by omega);have hNM:N<=M:=by omega
 have e1:a.eval ln = .int kz N:=by generalize hv:a.eval ln=v at h1;cases h1;rfl
 have e2:a.eval cp = .int kz' M:=by generalize hv:a.eval cp=v at h2;cases h2;rfl
 have hmk:=run_make (P:=P) w t e ie z0 (hT.slice ht) hie hz0' kz kz' N M (by omega) (by omega) (by
  have:ie.bytes*M<=4096*4294967296:=Nat.mul_le_mul hbytes (by omega);have h3:((ie.bytes*M:Nat):Int)<=281474976710656:=by omega
  rwa [Int.natCast_mul] at h3) (by omega)
 simp only [Int.toNat_natCast,hisz] at hmk;have hu:a0k td.size (List.replicate N y):=fun x hx=>by rw [(List.mem_replicate.1 hx).2];exact hyl
 have hfl:=a0b hu;have hmul:N*td.size<=M*td.size:=Nat.mul_le_mul_right _ hNM;have hget : ∀ q,q<N*td.size->(madeCells z0.cells (M*td.size)).getD q Go.undef=z0.cells.getD (q%td.size) Go.undef:=by
  intro q hq;have hm:=Nat.mod_lt q hpos;have hq2:q<M*td.size:=by omega
  simp [madeCells,hz0s,hq2,Array.getD,hm]
 have hrep0:Ar.std.rep (N:Int) y=List.replicate N y:=by simp [Ar.std]
 rw [hrep0] at hn;have hrun:(execOp a.eval o).run P w = .ok (.value (.slice (some ⟨w.heap.size,0,none⟩) N M)) (w.alloc (.cells (madeCells z0.cells (M*td.size)) e)):=by simp [execOp,hop,e1,e2,hmk]
 have each : ∀ (q:Nat) (hq:q<(D.flat (List.replicate N y)).length),RepD G.K (D.flat (List.replicate N y))[q] ((madeCells z0.cells (M*td.size)).getD q Go.undef)/\((madeCells z0.cells (M*td.size)).getD q Go.undef).oneCell'=true:=by
  intro q hq;have hq':q<N*td.size:=by simpa [hfl] using hq
  have hqm:q%td.size<td.size:=Nat.mod_lt _ hpos;have hqd:q / td.size<N:=by rw [Nat.div_lt_iff_lt_mul hpos];exact hq'
  have hqq:q / td.size*td.size+q%td.size=q:=by rw [Nat.mul_comm];exact Nat.div_add_mod _ _
  have hfg:=a0H hu (i:=q / td.size) (y:=y) (by rw [List.getElem?_replicate,if_pos hqd]) (q%td.size) hqm;rw [hqq,zp1 hq,zp1 (by omega)] at hfg;rw [Option.some.inj hfg,hget q hq'];exact hzr _ _ _
 obtain ⟨R2,hext,hrep⟩:=R.toGro (w':=w.alloc (.cells (madeCells z0.cells (M*td.size)) e)) (k:=td.size) (l:=List.replicate N y) (cap:=M) (b:=w.heap.size) (p:=some ⟨w.heap.size,0,none⟩) (fun _=>rfl) hu (by simp;omega) (by simp)
  ⟨rfl,rfl,fun ad _=>frozen?_alloc_new _ _ (fun _ _ _ e=>by cases e;rfl) ad,rfl,Nat.le_refl _⟩ (fun b' hb' _=>a0o hb') (fun _ =>
   ⟨by simp,.inl (Nat.le_refl _),_,e,heap_alloc_new,by rw [size_madeCells];simp,fun q hq=>(each q hq).2,fun q hq=>(each q hq).1⟩)
 refine a0y hnd hrun (hn _ _ _ ?_ (hext m hm));rw [hdst];simp only [List.length_replicate] at R2 hrep;have:=R2.put (d:=d) (hrep _) (fun r off e=>by cases e) (by show (σ.get d).isBox=false;rw [<-hgd d hdst];exact hb) hlt;simpa [St.upd,a0r] using this
theorem b3m {t:TypeId} {s:Nat} {i:Operand} (hop:o.op = .indexAddr t (.tmp s) i) {a0 k j0:Nat} {i0:Int} (hs:g s = .eptr a0 k i0 j0)
  {sz mm e:Nat} {zz:List AV} (ht:T t=some { size:=sz,u := .array mm e,zero:=zz }) {td:TD} (hte:T e=some td) {kz:IntKind} {z:Int} (hi:opv T g 0 i=some (.d (.int kz z))) (hz0:0<=z) (hz1:z<(mm:Int))
  (h:put σ.n g o.dst (.eptr a0 k i0 (j0+z.toNat*td.size))=some (ss,h')):a0f P σ o ss h':=by
 refine a0c hgd h (by simp [hop]) (AV.free_place rfl) ?_;intro G a w R;have h1:=(a0Y hg R hi .no).1;cases h1 with | d _ _ _ h1 =>
 generalize hei:a.eval i=vi at h1;cases h1;obtain ⟨hv,hnh,hi0⟩:=eptr_val hg R (x := .tmp s) hs;refine ⟨.pointer (some ⟨G.β (.o a0),i0.toNat*k+j0+z.toNat*td.size,none⟩),?_,fun d => ?_⟩
 ·simp [execOp,hop,hv,hei,Instr.indexAt,asIntOf,Go.underlying,hT.array ht,Instr.sureAddr,hz0,hz1,hT.size hte,Addr.add_none]
 have:=RepV.eptr (G:=G) (w:=w) (.s d) a0 k i0 (j0+z.toNat*td.size) hnh hi0;rw [<-Nat.add_assoc] at this;exact this
theorem b3n {op:BinOp} {t t':TypeId} {s:Nat} (hop:o.op = .binOp op t (.tmp s) (.const (.pointer none)) t') {b:Bool} (hb:(g s).nilP=some b) {sz:Nat} {zz:List AV} (ht:T t=some { size:=sz,u := .pointer,zero:=zz })
  {neg:Bool} (hneg:op=if neg then .neq else .eql) (h:put σ.n g o.dst (.d (.bool (bif neg then !b else b)))=some (ss,h')):a0f P σ o ss h':=by
 obtain ⟨e,he⟩:=hT.pointer ht;refine a0c hgd h (by simp [hop]) (AV.free_place rfl) ?_;intro G a w R;have hrep:=hg.rep R s;have hv : ∃ p:Option Addr,a.eval (.tmp s) = .pointer p/\p.isNone=b:=by
  show ∃ p:Option Addr,a.tmps.getD s Go.undef = .pointer p/\_;generalize a.tmps.getD s Go.undef=v at hrep;unfold AV.nilP at hb;split at hb
  ·rename_i hgs;cases hb;rw [hgs] at hrep;cases hrep;exact ⟨none,rfl,rfl⟩
  ·rename_i hgs;cases hb;rw [hgs] at hrep;cases hrep;exact ⟨some _,rfl,rfl⟩
  ·rename_i hgs;cases hb;rw [hgs] at hrep;cases hrep;exact ⟨some _,rfl,rfl⟩
  ·rename_i hgs;cases hb;rw [hgs] at hrep;cases hrep with | d _ _ _ hr=>cases hr;exact ⟨some _,rfl,rfl⟩
  ·rename_i hgs;cases hb;rw [hgs] at hrep;cases hrep;exact ⟨some _,rfl,rfl⟩
  cases hb
 obtain ⟨p,hp,rfl⟩:=hv;have heq:(Op.equal t (.pointer p) (.pointer none)).run P w = .ok p.isNone w:=by
  have h1 : ∀ d:Nat,(Op.equalIn (d+1) t (.pointer p) (.pointer none)).run P w = .ok p.isNone w:=fun d=>by
   cases p <;> simp [Op.equalIn,Go.underlying,he]
  simp [Op.equal,Op.maxDepth,h1 9999]
 have hc:a.eval (.const (.pointer none)) = .pointer none:=rfl;refine ⟨.bool (bif neg then !p.isNone else p.isNone),?_,fun d => .d _ _ _ (.bool _)⟩
 have hgu:(eqGuard op t (.tmp s) (.const (.pointer none)) (.pointer p) (.pointer none)).run P w = .ok () w:=by
  unfold eqGuard;cases neg <;> simp at hneg <;> subst hneg <;> simp
 have hbo:(Go.binOp op t (.pointer p) (.pointer none)).run P w = .ok (.bool (bif neg then !p.isNone else p.isNone)) w:=by
  cases neg <;> simp at hneg <;> subst hneg <;> simp [Go.binOp,heq]
 simp [execOp,hop,hp,hc,hgu,hbo]
theorem b5B (hH : ∀ (i:Nat) (ob:Obj),H[i]?=some ob->σ.heap[i]?=some ob) (hHe:a0P an g o=true->H=σ.heap) (h:a6V Ar.std T an σ.n g H o=some (some (ss,h'))):a0f P σ o ss h':=by
 unfold a6V at h;split at h
 ·rename_i args ts hop;split at h
  ·rename_i s t hargs hts;obtain rfl:args = #[.tmp s]:=by cases args;simp_all
   obtain rfl:ts = #[t]:=by cases ts;simp_all
   split at h
   ·rename_i a0 k hs;simp only [zp3] at h;split at h
    ·rename_i sz e z k' l ht hHi;split at h
     ·rename_i hk;subst hk;exact c0m hT hg hgd hop hs (hH _ _ hHi) ht h
     cases h
    cases h
   cases h
  cases h
 ·rename_i t s i hop;split at h
  ·rename_i a0 k hs;simp only [zp3] at h;split at h
   ·rename_i sz e zz kz z k' l ht hi hHi;split at h
    ·rename_i td hte;split at h
     ·rename_i hc;simp only [zp4,decide_eq_true_eq,a3r] at hc;obtain ⟨⟨⟨hk,rfl⟩,hz0⟩,hz1⟩:=hc;exact b5x hT hg hgd hop hs (hH _ _ hHi) ht hte hi hk hz0 (by simpa [Ar.std] using hz1) h
     cases h
    cases h
   cases h
  ·rename_i a0 k i0 j0 hs;split at h
   ·simp only [zp3] at h;split at h
    ·rename_i sz mm e zz kz z ht hi;split at h
     ·rename_i td hte;split at h
      ·rename_i hc;simp only [zp4,a3r,a4b,decide_eq_true_eq] at hc;rw [b0i,a4x] at h;exact b3m hT hg hgd hop hs ht hte hi hc.1 hc.2 h
      cases h
     cases h
    cases h
   cases h
  cases h
 ·rename_i t s hop;split at h
  ·rename_i a0 k i j hs;split at h
   ·rename_i k' l hHi;simp only [zp3] at h;split at h
    ·rename_i td ht;split at h
     ·rename_i hk;subst hk;split at h
      ·rename_i y hy;split at h
       ·rename_i v hv;exact b3g hT hg hgd hop hs (hH _ _ hHi) ht (by simpa [Ar.std] using hy) (a8p hv) h
       obtain ⟨av,hav,hp⟩:=a1o h;exact b3g hT hg hgd hop hs (hH _ _ hHi) ht (by simpa [Ar.std] using hy) (fun _=>hav) hp
      cases h
     cases h
    cases h
   cases h
  cases h
 ·rename_i t s yo hop;split at h
  ·rename_i a0 off hs;split at h
   ·rename_i q;split at h
    ·rename_i k l hq;have hHσ:H=σ.heap:=hHe (by simp [a0P,hop,hs]);subst hHσ;simp only [zp3] at h;split at h
     ·rename_i td cs ht hHi hdst;split at h
      ·rename_i hc;obtain ⟨h1,h2,h3⟩:=hc;cases h;exact b3i hT hg hgd hop hs hq hHi ht h1 h3 hdst
      cases h
     cases h
    cases h
   cases h
  ·rename_i a0 k i j hs;have hHσ:H=σ.heap:=hHe (by simp [a0P,hop,hs]);subst hHσ;split at h
   ·rename_i k' l hHi;simp only [zp3] at h;split at h
    ·rename_i td v ht hv hdst;split at h
     ·rename_i hc;obtain ⟨rfl,hpos,hvl⟩:=hc;split at h
      ·rename_i y0 hy0;replace hy0:l[i.toNat]?=some y0:=by simpa [Ar.std] using hy0
       split at h
       ·rename_i hc;obtain ⟨rfl,hsz⟩:=hc;cases h;exact b0q hT hg hgd hop hs hHi ht hv hdst hpos hvl hy0 (fun _=>⟨by omega,by omega,fun q hq=>by rw [if_pos (by omega)];simp⟩)
       split at h
       ·rename_i cs;split at h
        ·rename_i hc2;cases h;refine b0q hT hg hgd hop hs hHi ht hv hdst hpos hvl hy0 (fun hyk => ?_);replace hyk:cs.length=k':=hyk;have hv2:j+v.cells.length<=cs.length:=by omega
         have e:=a2N cs v.cells j;have el:=a2d cs v.cells j hv2;rw [<-hvl];refine ⟨el.trans hyk,by omega,fun q hq => ?_⟩;refine (e q hv2).trans ?_;show _=if j<=q/\q<j+v.cells.length then v.cells[q-j]? else cs[q]?
         by_cases c1:q<j
         ·rw [if_pos c1,if_neg (by omega)]
         rw [if_neg c1];by_cases c2:q<j+v.cells.length
         ·rw [if_pos c2,if_pos (by omega)]
         rw [if_neg c2,if_neg (by omega)]
        cases h
       cases h
      cases h
     cases h
    cases h
   cases h
  cases h
 ·rename_i op t s t' hop;split at h
  ·rename_i b hb;simp only [zp3] at h;split at h
   ·rename_i sz zz ht;split at h
    ·exact b3n hT hg hgd hop hb ht (neg:=false) rfl h
    ·exact b3n hT hg hgd hop hb ht (neg:=true) rfl h
    cases h
   cases h
  cases h
 ·rename_i t s hi hop;split at h
  ·rename_i a0 k hs;have hHσ:H=σ.heap:=hHe (by simp [a0P,hop,hs]);subst hHσ;simp only [zp3] at h;split at h
   ·rename_i es z k' l d hes hb hHi hdst;split at h
    ·rename_i hc;simp [Ar.std] at hc;obtain ⟨⟨⟨⟨⟨rfl,rfl⟩,hz0⟩,hz1⟩,hlt⟩,hbx⟩:=hc;cases h;exact b5y hT hg hgd hop hs hHi hes hb hz0 hz1 hdst hlt hbx
    cases h
   cases h
  cases h
 ·rename_i args ts hop;split at h
  ·rename_i s y t u d hargs hts hdst;obtain rfl:args = #[.tmp s,y]:=by cases args;simp_all
   obtain rfl:ts = #[t,u]:=by cases ts;simp_all
   split at h
   ·rename_i a0 k hs;have hHσ:H=σ.heap:=hHe (by simp [a0P,hop,hs]);subst hHσ;simp only [zp3] at h;split at h
    ·rename_i es es' k2 ys k' l het heu hy hHi;split at h
     ·rename_i hc;simp [Ar.std] at hc;obtain ⟨⟨⟨⟨⟨⟨⟨rfl,rfl⟩,rfl⟩,rfl⟩,hpos⟩,hlt⟩,hbx⟩,hfits⟩:=hc;have hbase:=b3j hT hg hgd hop hs hHi het heu hy hdst hpos hlt hbx hfits;split at h
      ·cases h;have:=a0f.settle hbase (by simp);rw [List.length_set] at this;exact this
      cases h;exact hbase
     cases h
    cases h
   split at h
   ·rename_i hgr;split at h
    ·rename_i k hk;simp only [zp3] at h;split at h
     ·rename_i es es' k2 ys het heu hy;split at h
      ·rename_i hc;simp [Ar.std] at hc;obtain ⟨⟨⟨⟨⟨⟨⟨rfl,rfl⟩,rfl⟩,hpos⟩,hlt⟩,hbx⟩,hsd⟩,hfits⟩:=hc;cases h;exact b1Y hT hg hgd hop hk het heu (fun R=>b3k hT hg hgd (by rintro ⟨i,a0,k0,rfl,hyg⟩;exact hHe (by simp [a0P,hop,hyg])) hy R) hdst hpos hlt hbx hsd hfits
      cases h
     cases h
    cases h
   cases h
  cases h
 ·rename_i t cnt parts hop;split at h
  ·rename_i d hdst;split at h
   ·rename_i hgr;have hHσ:H=σ.heap:=hHe (by simp only [a0P,hop,hdst,hgr,Bool.true_or]);subst hHσ;simp only [zp3] at h;split at h
    ·rename_i sz e zz ht;split at h
     ·rename_i td hte;split at h
      ·rename_i hc;simp only [zp4,decide_eq_true_eq] at hc;obtain ⟨⟨⟨⟨hps,hpos⟩,hbig⟩,hlt⟩,hb⟩:=hc;split at h
       ·rename_i l hl;cases h;exact b5A hT hg hgd hop hdst ht hte hps hpos hbig hlt (by simpa using hb) hl
       cases h
      cases h
     cases h
    cases h
   cases h
  cases h
 ·rename_i t ln cp hop;split at h
  ·rename_i d hdst;split at h
   ·rename_i hgr;have hHσ:H=σ.heap:=hHe (by simp [a0P,hop]);subst hHσ;simp only [zp3] at h;split at h
    ·rename_i sz e zz kz z kz' z' ht hln hcp;split at h
     ·rename_i td hte;split at h
      ·rename_i y hy;by_cases hth:an.th.contains d=true
       ·rw [if_pos hth] at h;split at h
        ·rename_i hc;cases h;simp only [zp4,decide_eq_true_eq] at hc;obtain ⟨⟨⟨⟨hlt,hb⟩,hpos⟩,hzz,hfit⟩,hz0⟩:=hc;exact b3l hT hg hgd hop hdst ht hte hln hcp hy hlt (by simpa using hb) hpos (by simpa [Ar.std] using hz0) (by simpa [Ar.std] using hzz) (by simpa [Ar.std] using hfit)
        cases h
       rw [if_neg hth] at h;split at h
       ·rename_i hc;cases h;simp only [zp4,decide_eq_true_eq] at hc;obtain ⟨⟨⟨⟨hlt,hb⟩,hpos⟩,hzz,hfit⟩,hz0⟩:=hc;have hzz:z=z':=by simpa [Ar.std] using hzz
        exact b3l hT hg hgd hop hdst ht hte hln hcp hy hlt (by simpa using hb) hpos (by simpa [Ar.std] using hz0) (by omega) (by rw [<-hzz];simpa [Ar.std] using hfit)
       cases h
      cases h
     cases h
    cases h
   cases h
  cases h
 cases h
end
theorem b3o {A:Ar} {T:a0i} {an:Ann} {n:Nat} {g:Nat->AV} {H H':List Obj} {o:Oper} {ss:a1C} (h:a6V A T an n g H o=some (some (ss,some H'))):H.length<=H'.length:=by
 unfold a6V at h;have hput : ∀ {dst v},put n g dst v≠some (ss,some H'):=by
  intro dst v h;obtain ⟨h,_⟩:=a0G h;cases h
 have hputO : ∀ {dst v},a5i n g dst v≠some (ss,some H'):=by
  intro dst v h;unfold a5i at h;split at h
  ·exact hput h
  cases h
 repeat' (split at h)
 all_goals first
  | (cases h;done)
  | (rw [b0i] at h;exact absurd (Option.some.inj h) hput)
  | (exact absurd (Option.some.inj h) hput)
  | (exact absurd (Option.some.inj h) hputO)
  | (simp only [zp3,Prod.mk.injEq] at h;obtain ⟨_,rfl⟩:=h;simp)
  | skip
theorem a3v : ∀ {cs:List AV} {ds:List D},a4y cs=some ds->cs=ds.map .d
 | [],ds,h=>by simp [a4y] at h;subst h;rfl
 | c::r,ds,h=>by
   cases c <;> simp only [a4y] at h <;> (repeat' split at h) <;> first | (cases h;done) | skip
   rename_i x y hy;cases h;rw [a3v hy];rfl
theorem b3p (z:Int) (i:Nat) (x r:D):b7S Ar.std z i x r=if z=Int.ofNat i then x else r:=by
 have e:Ar.std.zeq z (Int.ofNat i)=decide (z=Int.ofNat i):=rfl;unfold b7S;rw [e];by_cases h:z=Int.ofNat i
 ·rw [decide_eq_true h,if_pos h];split
  ·split
   ·rename_i hk;subst hk;rfl
   rfl
  rfl
 rw [decide_eq_false h,if_neg h];split
 ·split
  ·rename_i hk;subst hk;rfl
  rfl
 rfl
theorem a8s (z:Int) (x:D) : ∀ (i:Nat) (l:List D) (q:Nat),(a6q Ar.std z x i l)[q]?=if z=Int.ofNat (i+q) then (l[q]?).map (fun _=>x) else l[q]?
 | i,[],q=>by simp [a6q]
 | i,r::rs,0=>by
   simp only [a6q,List.getElem?_cons_zero,b3p,Nat.add_zero];split <;> simp
 | i,r::rs,q+1=>by
   simp only [a6q,List.getElem?_cons_succ];rw [a8s z x (i+1) rs q,show i+1+q=i+(q+1) by omega]
theorem a8t {z:Int} (x:D) {l:List D} (h0:0<=z) (h1:z<(l.length:Int)):a6q Ar.std z x 0 l=l.set z.toNat x:=by
 apply List.ext_getElem?;intro q;rw [a8s,List.getElem?_set,Nat.zero_add];by_cases h:z.toNat=q
 ·have hq:q<l.length:=by omega
  rw [if_pos (by show z=(q:Int);omega),if_pos h,if_pos (by omega),zp1 hq];rfl
 rw [if_neg (by intro e;exact h (by rw [e];rfl)),if_neg h]
theorem b3q {α:Type} {cs:List α} {j m q:Nat} (h:j+m<=cs.length) (hq:q<m) (x:α):cs.take j++((cs.drop j).take m).set q x++cs.drop (j+m)=cs.set (j+q) x:=by
 apply List.ext_getElem?;intro p;have h1:(cs.take j).length=j:=by simp;omega
 have h2:(((cs.drop j).take m).set q x).length=m:=by simp;omega
 rw [List.append_assoc];by_cases hp:p<j
 ·rw [zp7 (by omega),List.getElem?_take_of_lt hp,List.getElem?_set_ne (by omega)]
 rw [zp8 (by omega),h1];by_cases hp2:p<j+m
 ·rw [zp7 (by omega),List.getElem?_set];by_cases he:q=p-j
  ·rw [if_pos he,if_pos (by simp;omega),List.getElem?_set,if_pos (by omega),if_pos (by omega)]
  rw [if_neg he,List.getElem?_take_of_lt (by omega),List.getElem?_drop,List.getElem?_set_ne (by omega)];congr 1;omega
 rw [zp8 (by omega),h2,List.getElem?_drop,List.getElem?_set_ne (by omega)];congr 1;omega
theorem a3E {G:Gh} {σ:St} {g:Nat->AV} {a:Act} {w:World} (hg:Less g σ) (R:Rel G σ a w) {s b k j m:Nat} {i z:Int} (h:g s = .vptr b k i j m z) :
  (a.eval (.tmp s) = .pointer (some ⟨G.β (.o b),i.toNat*k+(j+z.toNat),none⟩)/\b<G.nh/\0<=i)/\0<=z/\z<(m:Int):=by
 have:=hg.rep R s;rw [h] at this;generalize hv:a.tmps.getD s Go.undef=v at this;cases this with | vptr _ _ _ _ _ _ _ h1 h2 h3 h4=>exact ⟨⟨hv,h1,h2⟩,h3,h4⟩
theorem a0f.ofRep {P:Program} {σ:St} {o:Oper} {ss:a1C} {h':Option (List Obj)} (h:(∃ G a w,Rel G σ a w)->a0f P σ o ss h'):a0f P σ o ss h' :=
 fun r n m G a w Q next hm R hn=>h ⟨G,a,w,R⟩ r n m G a w Q next hm R hn
section
variable {P:Program} {T:a0i} (hT:TOk P T) {σ:St} {g:Nat->AV} {o:Oper} {ss:a1C} {h':Option (List Obj)} {H:List Obj} {an:Ann}
 (hg:Less g σ) (hgd : ∀ d,o.dst=some d->g d=σ.get d)
include hT hg hgd
theorem b0r {t:TypeId} {s:Nat} {i:Operand} (hop:o.op = .indexAddr t (.tmp s) i) {a0 k j0:Nat} {i0:Int} (hs:g s = .eptr a0 k i0 j0\/(g s = .ptr a0 j0/\k=0/\i0=0))
  {sz mm e:Nat} {zz:List AV} (ht:T t=some { size:=sz,u := .array mm e,zero:=zz }) {td:TD} (hte:T e=some td) {kz:IntKind} {z:Int} (hi:opv T g 0 i=some (.d (.int kz z))) (hsz:td.size=1) (hz0:0<=z) (hz1:z<(mm:Int))
  (h:put σ.n g o.dst (.vptr a0 k i0 j0 mm z)=some (ss,h')):a0f P σ o ss h':=by
 refine a0c hgd h (by simp [hop]) (AV.free_place rfl) ?_;intro G a w R;have h1:=(a0Y hg R hi .no).1;cases h1 with | d _ _ _ h1 =>
 generalize hei:a.eval i=vi at h1;cases h1;have hv:a.eval (.tmp s) = .pointer (some ⟨G.β (.o a0),i0.toNat*k+j0,none⟩)/\a0<G.nh/\0<=i0:=by
  rcases hs with hs | ⟨hs,rfl,rfl⟩
  ·exact eptr_val hg R (x := .tmp s) hs
  obtain ⟨h1,h2⟩:=b3h hg R hs;exact ⟨by simpa using h1,h2,Int.le_refl _⟩
 obtain ⟨hv,hnh,hi0⟩:=hv;refine ⟨.pointer (some ⟨G.β (.o a0),i0.toNat*k+(j0+z.toNat),none⟩),?_,fun d => .vptr _ _ _ _ _ _ _ hnh hi0 hz0 hz1⟩;simp [execOp,hop,hv,hei,Instr.indexAt,asIntOf,Go.underlying,hT.array ht,Instr.sureAddr,hz0,hz1,hT.size hte,Addr.add_none,hsz,Nat.add_assoc]
theorem b5C {t:TypeId} {s:Nat} (hop:o.op = .load t (.tmp s)) {a0 j mm:Nat} {i z:Int} {cs:List AV} (hs:g s = .vptr a0 0 i j mm z) (hHi:σ.heap[a0]?=some (.cells cs)) {td:TD} (ht:T t=some td) (hsz:td.size=1) (hag:td.isAgg=false)
  {y:D} (hy:cs[j+z.toNat]?=some (.d y)) (hp:put σ.n g o.dst (.d y)=some (ss,h')):a0f P σ o ss h':=by
 refine a0c hgd hp (by simp [hop]) (AV.free_place rfl) ?_;intro G a w R;obtain ⟨⟨hv,hnh,hi⟩,_⟩:=a3E hg R hs;have hjl:j+z.toNat<cs.length:=(zp2.1 hy).1;have hrd:a0O td cs (j+z.toNat)=some (.d y):=by
  unfold a0O cut;rw [hsz,if_pos (by omega)];simp only [hag,Bool.false_eq_true,if_false];have:((cs.drop (j+z.toNat)).take 1).head?=some (.d y):=by
   rw [List.head?_take,if_neg (by omega),List.head?_drop];exact hy
  rw [this];rfl
 obtain ⟨v,hr,_,hrep⟩:=a3C hT ht R (A := .obj a0 (j+z.toNat)) (b:=G.β (.o a0)) (off:=j+z.toNat) ⟨hnh,rfl⟩ (av := .d y) ⟨_,cs,hHi,rfl,hrd⟩;refine ⟨v,?_,fun d=>hrep _⟩;rw [Nat.mul_zero,Nat.zero_add] at hv;simp [execOp,hop,hv,Instr.loadAt,Instr.sureAddr,hr]
theorem b3r {t:TypeId} {s:Nat} {yo:Operand} (hop:o.op = .store t (.tmp s) yo) {a0 j mm:Nat} {i z:Int} {cs:List AV} (hs:g s = .vptr a0 0 i j mm z) (hHi:σ.heap[a0]?=some (.cells cs)) {td:TD} (ht:T t=some td) (hsz:td.size=1)
  {v:D} (hv:opD T g t yo=some v) (h1v:v.isOne=true) (hdst:o.dst=none) (hoff:j+z.toNat<cs.length):a0f P σ o [] (some (σ.heap.set a0 (.cells (cs.set (j+z.toNat) (.d v))))):=by
 have hnd : ∀ c,o.op ≠ .defer c:=by simp [hop]
 intro r n m G a w Q next hm R hn
 obtain ⟨⟨hpt,hnh,hi⟩,_⟩:=a3E hg R hs;rw [Nat.mul_zero,Nat.zero_add] at hpt;have hrv:=a0z hg R hv;obtain ⟨cur,e,hO,hw,hs',hh,hcc⟩:=R.h.objs a0 _ hHi;have hone:=a1G h1v;obtain ⟨hvs,hvc,hv1⟩:=hrv.cells;have hvs1:(a.eval yo).cells.size=1:=by rw [hvs,hone];rfl
 have hcore:=a2k R (off:=j+z.toNat) (nv:=[.d v]) (vs:=(a.eval yo).cells.toList) hHi hw (by simp;omega) (by simpa using hvs1)
  (fun q hq=>by
   have hq0:q=0:=by simpa using hq
   subst hq0;have:=hvc 0 (by rw [hone];exact Nat.one_pos);simp only [hone,List.getElem_cons_zero] at this;have e0:(a.eval yo).cells.toList.getD 0 Go.undef=(a.eval yo).cells.getD 0 Go.undef:=by simp [List.getD,zp5]
   rw [e0];exact .d _ _ _ this) (by simp [AV.isCell];cases v <;> first | rfl | (simp [D.isOne] at h1v))
 have honev : ∀ x∈(a.eval yo).cells.toList,x.oneCell'=true:=by
  intro x hx;obtain ⟨q,hq,rfl⟩:=List.mem_iff_getElem.1 hx;have hq1:q<(a.eval yo).cells.size:=by simpa using hq
  have:=hv1 q (by omega);simpa [Array.getD,hq1] using this
 have hrun:=a0Z hT ht hw (off:=j+z.toNat) (v:=a.eval yo) (by omega) (by omega) honev;refine a1P hnd (w':=w.setRow (G.β (.o a0)) (rowOf cur (j+z.toNat) (a.eval yo).cells.toList)) (by simp [execOp,hop,hpt,Instr.storeAt,Instr.sureAddr,hrun]) (hn _ _ _ ?_ (Ext.setRow hO _));rw [hdst];have hset:a0Q cs (j+z.toNat) [AV.d v]=cs.set (j+z.toNat) (.d v):=by
  simp only [a0Q,List.length_singleton];rw [List.set_eq_take_append_cons_drop,if_pos hoff];simp
 rw [hset] at hcore;simpa [Act.put] using hcore
theorem b5D (hH : ∀ (i:Nat) (ob:Obj),H[i]?=some ob->σ.heap[i]?=some ob) (hHe:a0P an g o=true->H=σ.heap) (h:a6U Ar.std T an σ.n g H o=some (some (ss,h'))):a0f P σ o ss h':=by
 unfold a6U at h;split at h
 ·rename_i t s i hop;split at h
  ·split at h
   ·simp only [zp3] at h;split at h
    ·rename_i sz mm e zz kz z ht hi;split at h
     ·rename_i td hte;split at h
      ·rename_i hc;simp [Ar.std] at hc;obtain ⟨⟨h1,h2⟩,h3⟩:=hc;split at h
       ·rename_i a0 off hs;exact b0r hT hg hgd hop (.inr ⟨hs,rfl,rfl⟩) ht hte hi h1 h2 h3 h
       ·rename_i a0 k i0 j0 hs;exact b0r hT hg hgd hop (.inl hs) ht hte hi h1 h2 h3 h
       cases h
      cases h
     cases h
    cases h
   cases h
  cases h
 ·rename_i t s hop;split at h
  ·rename_i a0 k i j mm z hs;simp only [zp3] at h;split at h
   ·rename_i td ob ht hHi;split at h
    ·rename_i hc;obtain ⟨hsz,hag⟩:=hc;split at h
     ·rename_i ds hw;split at h
      ·rename_i y hy;refine a0f.ofRep fun ⟨G,a,w,R⟩ => ?_;obtain ⟨_,hz0,hz1⟩:=a3E hg R hs;have hy':ds[z.toNat]?=some y:=by simpa [Ar.std] using hy
       unfold c0f at hw;split at hw
       ·rename_i cs;split at hw
        ·rename_i hkk;obtain ⟨rfl,hlen⟩:=hkk;have hpl:=a3v hw;refine b5C hT hg hgd hop hs (hH _ _ hHi) ht hsz hag ?_ h;have:((cs.drop j).take mm)[z.toNat]?=some (.d y):=by rw [hpl,List.getElem?_map,hy'];rfl
         rw [List.getElem?_take_of_lt (by omega),List.getElem?_drop] at this;exact this
        cases hw
       ·rename_i k' l;split at hw
        ·rename_i hkk;subst hkk;split at hw
         ·rename_i cs hl;split at hw
          ·rename_i hlen;cases hw;have hone:y.isOne=true:=by
            obtain ⟨_,q1,q2,hu,q3⟩:=R.h.objs a0 _ (hH _ _ hHi);have hl':l[i.toNat]?=some (.agg cs):=by simpa [Ar.std] using hl
            have hlt:i.toNat<l.length:=(zp2.1 hl').1;obtain ⟨vs,e,hO,hww,hss,hh1,hh⟩:=q3 (by omega);rw [List.getElem?_take_of_lt (by omega),List.getElem?_drop] at hy';have hjq:j+z.toNat<cs.length:=(zp2.1 hy').1;have hk:cs.length=k':=hu _ (List.mem_of_getElem? hl');have hfg:=a0H hu hl' (j+z.toNat) (by omega);have hfl:=a0b hu;have hmul:i.toNat*k'+k'<=l.length*k':=by rw [<-Nat.succ_mul];exact Nat.mul_le_mul_right _ hlt
            have hj:i.toNat*k'+(j+z.toNat)<(D.flat l).length:=by omega
            rw [zp1 hj] at hfg;have hfg2:(D.flat l)[i.toNat*k'+(j+z.toNat)]=y:=by
             have:(D.agg cs).cells[j+z.toNat]?=some y:=hy';rw [this] at hfg;exact Option.some.inj hfg
            have h3:=hh _ hj;rw [hfg2] at h3;exact a2e h3 (hh1 _ hj)
           refine b0p hT hg hgd hop (fun R=>(a3E hg R hs).1) (hH _ _ hHi) ht (by simpa [Ar.std] using hl) (av := .d y) (fun _ => ?_) h;rw [List.getElem?_take_of_lt (by omega),List.getElem?_drop] at hy';have hjq:j+z.toNat<cs.length:=(zp2.1 hy').1;unfold a0O cut;rw [hsz,if_pos (by simp [D.cells];omega)];simp only [hag,Bool.false_eq_true,if_false];have:((((D.agg cs).cells.map AV.d).drop (j+z.toNat)).take 1).head?=some (.d y):=by
            rw [List.head?_take,if_neg (by omega),List.head?_drop,List.getElem?_map];show (cs[j+z.toNat]?).map AV.d=_;rw [hy'];rfl
           rw [this];rfl
          cases hw
         cases hw
        cases hw
       cases hw
      cases h
     cases h
    cases h
   cases h
  cases h
 ·rename_i t s yo hop;split at h
  ·rename_i a0 k i j mm z hs;have hHσ:H=σ.heap:=hHe (by simp [a0P,hop,hs]);subst hHσ;simp only [zp3] at h;split at h
   ·rename_i td ob v ht hHi hv hdst;split at h
    ·rename_i hc;obtain ⟨hsz,hone⟩:=hc;simp only [Option.map_eq_some_iff] at h;obtain ⟨ob',hob,he⟩:=h;cases he;refine a0f.ofRep fun ⟨G,a,w,R⟩ => ?_;obtain ⟨_,hz0,hz1⟩:=a3E hg R hs;unfold b6Q at hob;split at hob
     ·rename_i cs;split at hob
      ·rename_i hkk;obtain ⟨rfl,hlen⟩:=hkk;split at hob
       ·rename_i ds hpl;cases hob;have hcs:=a3v hpl;have hdl:ds.length=mm:=by
         have:((cs.drop j).take mm).length=(ds.map AV.d).length:=by rw [hcs]
         simp at this;omega
        have e1:cs.take j++(a6q Ar.std z v 0 ds).map .d++cs.drop (j+mm)=cs.set (j+z.toNat) (.d v):=by
         rw [a8t v hz0 (by omega),List.map_set,<-hcs];exact b3q hlen (by omega) _
        rw [e1];exact b3r hT hg hgd hop hs hHi ht hsz hv hone hdst (by omega)
       cases hob
      cases hob
     ·rename_i k' l;split at hob
      ·rename_i hkk;subst hkk;split at hob
       ·rename_i cs hl;split at hob
        ·rename_i hlen;cases hob;have e1:cs.take j++a6q Ar.std z v 0 ((cs.drop j).take mm)++cs.drop (j+mm)=cs.set (j+z.toNat) v:=by
          rw [a8t v hz0 (by simp;omega)];exact b3q hlen (by omega) _
         rw [e1];refine a8q hT hg hgd hop (fun R=>(a3E hg R hs).1) hHi ht hv hdst (by omega) (by rw [a1G hone,hsz];rfl) (by simpa [Ar.std] using hl) (fun hyk => ?_);replace hyk:cs.length=k':=hyk;refine ⟨by simpa [D.cells] using hyk,by omega,fun q hq => ?_⟩;show (cs.set (j+z.toNat) v)[q]?=if _ then v.cells[q-(j+z.toNat)]? else cs[q]?
         rw [List.getElem?_set,a1G hone,hsz];by_cases hqj:j+z.toNat=q
         ·rw [if_pos hqj,if_pos (by omega),if_pos (by omega),show q-(j+z.toNat)=0 by omega];rfl
         rw [if_neg hqj,if_neg (by omega)]
        cases hob
       cases hob
      cases hob
     cases hob
    cases h
   cases h
  cases h
 cases h
end
theorem b3s {A:Ar} {T:a0i} {an:Ann} {n:Nat} {g:Nat->AV} {H H':List Obj} {o:Oper} {ss:a1C} (h:a6U A T an n g H o=some (some (ss,some H'))):H.length<=H'.length:=by
 unfold a6U at h;have hput : ∀ {dst v},put n g dst v≠some (ss,some H'):=by
  intro dst v h;obtain ⟨h,_⟩:=a0G h;cases h
 repeat' (split at h)
 all_goals first
  | (cases h;done)
  | (exact absurd (Option.some.inj h) hput)
  | (simp only [zp3,Option.map_eq_some_iff] at h
     obtain ⟨ob',_,he⟩:=h;simp only [Prod.mk.injEq,zp3] at he;rw [<-he.2];simp)
  | (simp at h;done)
theorem a5f {P:Program} {w:World} {len nl nh:Nat} {low high:Option Value} (hlo:(low=none/\nl=0) \/ ∃ k,low=some (.int k nl))
  (hhi:(high=none/\nh=len) \/ ∃ k,high=some (.int k nh)) (h1:nl<=nh) (h2:nh<=len):(Instr.sliceBounds false len len low high none).run P w = .ok (nl,nh,len) w:=by
 have c1:=Nat.not_lt.2 h1;have c2:=Nat.not_lt.2 h2;rcases hhi with ⟨rfl,rfl⟩ | ⟨kh,rfl⟩ <;> rcases hlo with ⟨rfl,rfl⟩ | ⟨kl,rfl⟩ <;> simp [Instr.sliceBounds,Instr.sliceBound,asIntOf,h1,h2,c1,c2]
theorem Rel.unlimS {G:Gh} {σ:St} {a:Act} {w:World} (R:Rel G σ a w) {s k:Nat} (hs:σ.get s = .lim k []):Rel G (σ.upd [(s,.own k [])] none) a w:=by
 have hrep:=R.slots s;have hr:RepV G w (.s s) (.own k []) (a.tmps.getD s Go.undef):=by
  rw [hs] at hrep;generalize hv:a.tmps.getD s Go.undef=v at hrep;cases hrep with | lim _ _ _ _ h ht =>
  refine .own _ _ _ _ h fun a n cap e hc => ?_;have:=ht _ _ _ e;rcases h.slice with ⟨_,oa,hv⟩ | ⟨b,off,cap',hv⟩
  ·rw [hv] at e;simp at e;omega
  rw [hv] at e;simp at e;omega
 refine ⟨R.h,by simpa [St.upd] using R.size,?_,?_,R.df⟩
 ·intro t;simp only [St.upd,St.get,a0r,List.foldl_cons,List.foldl_nil,a0d];split
  ·rename_i e;subst e;exact hr
  exact R.slots t
 intro t r' off ht;simp only [St.upd,St.get,a0r,List.foldl_cons,List.foldl_nil,a0d] at ht ⊢;split at ht
 ·cases ht
 obtain ⟨cs,hcs⟩:=R.places t r' off ht;refine ⟨cs,?_⟩;split
 ·rename_i e;subst e;rw [hcs] at hs;cases hs
 exact hcs
section
variable {P:Program} {T:a0i} (hT:TOk P T) {σ:St} {g:Nat->AV} {o:Oper} {ss:a1C} {h':Option (List Obj)} {H:List Obj} {an:Ann}
 (hg:Less g σ) (hgd : ∀ d,o.dst=some d->g d=σ.get d)
include hT hg hgd
theorem b5E {t:TypeId} {s:Nat} {x:Operand} (hop:o.op = .indexAddr t (.tmp s) x) {a0 k:Nat} {lo ln:Int} (hs:g s = .mref a0 k lo ln) {sz e:Nat} {zc:List AV} {td:TD} {kz:IntKind} {z:Int}
  (ht:T t=some { size:=sz,u := .slice e,zero:=zc }) (hte:T e=some td) (hi:opv T g 0 x=some (.d (.int kz z))) (hz0:0<=z) (hz1:z<ln) (hk:k=td.size) (h:put σ.n g o.dst (.eptr a0 1 ((lo+z)*(k:Int)) 0)=some (ss,h')):a0f P σ o ss h':=by
 subst hk;refine a0c hgd h (by simp [hop]) (AV.free_place rfl) ?_;intro G a w R;have h1:=(a0Y hg R hi .no).1;cases h1 with | d _ _ _ h1 =>
 generalize hei:a.eval x=vi at h1;cases h1;obtain ⟨b,off,cap,hv,hnh,hlo,hn,hcap,hbo⟩:=a1r hg R (x := .tmp s) hs;obtain ⟨rfl,rfl⟩:=hbo (by omega);have hzz:z<(ln.toNat:Int):=by omega
 have hmx : ¬ max ln 0<=z:=by omega
 refine ⟨.pointer (some ⟨G.β (.o a0),lo.toNat*td.size+z.toNat*td.size,none⟩),?_,fun d => ?_⟩
 ·simp [execOp,hop,hv,hei,Instr.indexAt,asIntOf,Go.underlying,hT.slice ht,hz0,hzz,hmx,hT.size hte,Addr.add_none]
 obtain ⟨L,rfl⟩:=zp9 hlo;obtain ⟨Z,rfl⟩:=zp9 hz0;have e1:(((L:Nat):Int)+((Z:Nat):Int))*((td.size:Nat):Int)=(((L+Z)*td.size:Nat):Int):=by rw [Int.natCast_mul,Int.natCast_add]
 have:=RepV.eptr (G:=G) (w:=w) (.s d) a0 1 ((((L:Nat):Int)+((Z:Nat):Int))*((td.size:Nat):Int)) 0 hnh (by rw [e1];exact Int.natCast_nonneg _);have e:((((L:Nat):Int)+((Z:Nat):Int))*((td.size:Nat):Int)).toNat*1+0=((L:Nat):Int).toNat*td.size+((Z:Nat):Int).toNat*td.size:=by
  rw [e1];simp only [Int.toNat_natCast,Nat.mul_one,Nat.add_zero,Nat.add_mul]
 rw [e] at this;exact this
theorem a8u {G:Gh} {a:Act} {w:World} (R:Rel G σ a w) {s:Nat} {lo hi:Option Operand} {a0 j:Nat} {i:Int} (h:a4d (g s) lo hi=some (a0,i,j)) :
  a.eval (.tmp s) = .pointer (some ⟨G.β (.o a0),(i+(j:Int)).toNat,none⟩)/\a0<G.nh:=by
 have:=hg.rep R s;generalize hv:a.tmps.getD s Go.undef=v at this;have hev:a.eval (.tmp s)=v:=hv;unfold a4d at h;split at h
 ·rename_i a1 i1 j1 hc;cases h;rw [hc] at this;cases this with | eptr _ _ _ _ _ h1 h2 =>
  rw [hev];refine ⟨?_,h1⟩;congr 3;omega
 ·rename_i a1 off hc;split at h
  ·cases h
  cases h;rw [hc] at this;cases this with | ptr _ _ _ h1 =>
  rw [hev];refine ⟨?_,h1⟩;congr 3;omega
 cases h
theorem b0s {t:TypeId} {s:Nat} {lo hi:Option Operand} (hop:o.op = .slice t (.tmp s) lo hi none) {a0 j:Nat} {i:Int} (hb:a4d (g s) lo hi=some (a0,i,j)) {sz m e:Nat} {z:List AV} {td:TD}
  (ht:T t=some { size:=sz,u := .array m e,zero:=z }) (hte:T e=some td) {zh zl q:Int} (hbh:bound g T (Int.ofNat m) hi=some zh) (hbl:bound g T 0 lo=some zl) (hz0:0<=zl) (hz1:zl<=zh) (hz2:zh<=Int.ofNat m)
  (hp:0<=i+(j:Int)) (hq0:0<=q) (hq:q*(td.size:Int)=i+(j:Int)) (h:put σ.n g o.dst (.mref a0 td.size (q+zl) (zh-zl))=some (ss,h')):a0f P σ o ss h':=by
 refine a0c hgd h (by simp [hop]) (AV.free_place rfl) ?_;intro G a w R;obtain ⟨hv,hnh⟩:=a8u hT hg hgd R hb;obtain ⟨nl,rfl⟩:=zp9 hz0;obtain ⟨nh,rfl⟩:=zp9 (Int.le_trans hz0 hz1);obtain ⟨Q,rfl⟩:=zp9 hq0;have hbl':(lo.map a.eval=none/\nl=0) \/ ∃ k,lo.map a.eval=some (.int k nl):=by
  cases lo with
  | none=>simp only [bound,zp3] at hbl;exact .inl ⟨rfl,by omega⟩
  | some x=>obtain ⟨k,e1⟩:=a0D hg hbl R;exact .inr ⟨k,by simp [e1]⟩
 have hbh':(hi.map a.eval=none/\nh=m) \/ ∃ k,hi.map a.eval=some (.int k nh):=by
  cases hi with
  | none=>simp only [bound,zp3] at hbh;refine .inl ⟨rfl,?_⟩;have:(m:Int)=nh:=hbh;omega
  | some x=>obtain ⟨k,e1⟩:=a0D hg hbh R;exact .inr ⟨k,by simp [e1]⟩
 have hz2':nh<=m:=by have:(nh:Int)<=(m:Int):=hz2;omega
 have hrun:=a5f (P:=P) (w:=w) (len:=m) (nl:=nl) (nh:=nh) hbl' hbh' (by omega) hz2';refine ⟨_,by simp [execOp,hop,Instr.sliceAt,Go.underlying,hT.array ht,hv,Instr.sureAddr,hrun,hT.size hte];rfl,fun d => ?_⟩;have hoff:(i+(j:Int)).toNat=Q*td.size:=by rw [<-hq,<-Int.natCast_mul,Int.toNat_natCast]
 have e4:((nh:Int)-(nl:Int)).toNat=nh-nl:=by omega
 by_cases hm:m=nl
 ·rw [if_pos hm];have:=RepV.mref (G:=G) (w:=w) (.s d) a0 td.size ((Q:Int)+nl) ((nh:Int)-nl) (G.β (.o a0)) (i+(j:Int)).toNat (m-nl) hnh (by omega) (by omega) (by omega) (by omega)
  rwa [e4] at this
 rw [if_neg hm];have:=RepV.mref (G:=G) (w:=w) (.s d) a0 td.size ((Q:Int)+nl) ((nh:Int)-nl) (G.β (.o a0)) ((i+(j:Int)).toNat+nl*td.size) (m-nl) hnh (by omega) (by omega) (by omega) (fun hlt=>by
  refine ⟨rfl,?_⟩;rw [hoff,<-Nat.add_mul];congr 1)
 rw [e4] at this;simpa [Addr.add_none] using this
theorem b8e {t:TypeId} {s:Nat} {hi mx:Operand} (hop:o.op = .slice t (.tmp s) none (some hi) (some mx)) {a0 k:Nat} {l0 ln:Int} (hs:g s = .mref a0 k l0 ln) {es:Nat}
  (hes:a0h T t=some es) (hbh:bound g T 1 (some hi)=some 0) (hbm:bound g T 1 (some mx)=some 0) (hk:es=k)
  (h:put σ.n g o.dst (.lim k [])=some (ss,h')):a0f P σ o ss h':=by
 obtain ⟨sz,e,z,td,ht,hte,rfl⟩:=a0l hes;subst hk;refine a0c hgd h (by simp [hop]) (fun _ _ e=>by cases e) ?_;intro G a w R;obtain ⟨b,off,cap,hv,hnh,hlo,hn,hcap,hbo⟩:=a1r hg R (x := .tmp s) hs;obtain ⟨k2,e2⟩:=a0D hg hbh R;obtain ⟨k3,e3⟩:=a0D hg hbm R;have hrun:=a0J (P:=P) (w:=w) (len:=ln.toNat) (cap:=cap) (nl:=0) (nh:=0) (m:=0) (low:=none) (high:=some (a.eval hi)) (max:=some (a.eval mx))
  (.inl ⟨rfl,rfl⟩) (.inr ⟨k2,by rw [e2];rfl⟩) (.inr ⟨⟨k3,by rw [e3];rfl⟩,rfl⟩) (by omega) (by omega) (by omega)
 refine ⟨.slice (some ⟨b,off,none⟩) 0 0,by simp [execOp,hop,Instr.sliceAt,Instr.slice,Go.underlying,hT.slice ht,hv,hrun,hT.size hte],fun d => ?_⟩;exact .lim _ _ _ _ (.none0 _ _) (fun a n cap e=>by cases e;rfl)
theorem c0n {t:TypeId} {s:Nat} {t':TypeId} (hop:o.op = .binOp .eql t (.tmp s) (.const (.slice none 0 0)) t') {sz:Nat} {e:TypeId} {z:List AV} (ht:T t=some ⟨sz,.slice e,z⟩) {a0 k:Nat} {l0 ln:Int} (hs:g s = .mref a0 k l0 ln)
  (h:put σ.n g o.dst (.d (.bool false))=some (ss,h')):a0f P σ o ss h':=by
 have hnd : ∀ c,o.op ≠ .defer c:=by simp [hop]
 refine a0c hgd h hnd (AV.free_place rfl) ?_;intro G a w R;obtain ⟨b,off,cap,hv,hnh,hlo,hn,hcap,hbo⟩:=a1r hg R (x := .tmp s) hs;refine ⟨.bool false,?_,fun d => .d _ _ _ (.bool _)⟩;have he:=run_equal_slice_nil (P:=P) w t e (some ⟨b,off,none⟩) ln.toNat cap (hT.slice ht);have hgd:(eqGuard .eql t (.tmp s) (.const (.slice none 0 0)) (.slice (some ⟨b,off,none⟩) ln.toNat cap) (.slice none 0 0)).run P w = .ok () w:=by
  unfold eqGuard;simp
 have hbo:(Go.binOp .eql t (.slice (some ⟨b,off,none⟩) ln.toNat cap) (.slice none 0 0)).run P w = .ok (.bool false) w:=by
  simp [Go.binOp,he]
 have hc:a.eval (.const (.slice none 0 0)) = .slice none 0 0:=rfl;simp [execOp,hop,hv,hc,hgd,hbo]
theorem b8f {s y:Nat} {t u:TypeId} (hop:o.op = .call { callee := .builtin .copy,args := #[.tmp s,.tmp y],argTypes := #[t,u] }) {a0 k:Nat} {lo n1 lo2 n2:Int} {l:List D}
  (hs:g s = .mref a0 k lo n1) (hy:g y = .mref a0 k lo2 n2) (het:a0h T t=some k) (hHi:σ.heap[a0]?=some (.arr 1 l)) (hk:0<k)
  (hc1:n2<=n1) (hc2:(lo+n1)*(k:Int)<=(l.length:Int)) (hc3:(lo2+n2)*(k:Int)<=(l.length:Int)) {ss1:a1C} {h1:Option (List Obj)} (hp:put σ.n g o.dst (.d (.int .i64 n2))=some (ss1,h1)) :
  a0f P σ o ss1 (some (σ.heap.set a0 (.arr 1 (Ar.std.spl l (lo*(k:Int)) (Ar.std.sub l (lo2*(k:Int)) ((lo2+n2)*(k:Int))))))):=by
 have hnd : ∀ c,o.op ≠ .defer c:=by simp [hop]
 obtain ⟨sz,e,zz,td,hTt,hTe,hks⟩:=a0l het;obtain ⟨rfl,hcase⟩:=a0G hp;intro r n m G a w Q next hm R hn
 obtain ⟨b,off,cap,hv,hnh,hlo,hn0,hnc,hbo⟩:=a1r hg R (x := .tmp s) hs;obtain ⟨b2,off2,cap2,hv2,_,hlo2,hn2,hcap2,hbo2⟩:=a1r hg R (x := .tmp y) hy;obtain ⟨vs,ec,hO,hw,hu,hsz,hone,hh⟩:=R.h.objs a0 _ hHi;have hfl:=a0b hu;obtain ⟨LO,rfl⟩:=zp9 hlo;obtain ⟨N1,rfl⟩:=zp9 hn0;obtain ⟨L2,rfl⟩:=zp9 hlo2;obtain ⟨N2,rfl⟩:=zp9 hn2;have hb2:LO*k+N1*k<=l.length:=by
  have:(((LO+N1)*k:Nat):Int)<=(l.length:Int):=by simpa using hc2
  rw [<-Nat.add_mul];omega
 have hb2':L2*k+N2*k<=l.length:=by
  have:(((L2+N2)*k:Nat):Int)<=(l.length:Int):=by simpa using hc3
  rw [<-Nat.add_mul];omega
 have hb3:N2*k<=N1*k:=Nat.mul_le_mul_right _ (by omega);obtain ⟨l',hl'⟩ : ∃ l',Ar.std.spl l (((LO:Nat):Int)*(k:Int)) (Ar.std.sub l (((L2:Nat):Int)*(k:Int)) ((((L2:Nat):Int)+((N2:Nat):Int))*(k:Int)))=l':=⟨_,rfl⟩;rw [hl'] at hn;have hl'':l'=l.take (LO*k)++(l.drop (L2*k)).take (N2*k)++l.drop (LO*k+N2*k):=by
  rw [<-hl'];have e2:(((LO:Nat):Int)*(k:Int)).toNat=LO*k:=by rw [<-Int.natCast_mul,Int.toNat_natCast]
  have e3:(((L2:Nat):Int)*(k:Int)).toNat=L2*k:=by rw [<-Int.natCast_mul,Int.toNat_natCast]
  have e4:((((L2:Nat):Int)+((N2:Nat):Int))*(k:Int)).toNat=L2*k+N2*k:=by
   rw [<-Int.natCast_add,<-Int.natCast_mul,Int.toNat_natCast,Nat.add_mul]
  have e5:L2*k+N2*k-L2*k=N2*k:=by omega
  have e6:((l.drop (L2*k)).take (N2*k)).length=N2*k:=by simp;omega
  simp only [Ar.std,e2,e3,e4,e5,e6]
 have hdst' : ∀ (w':World),Rel G (σ.upd [] (some (σ.heap.set a0 (.arr 1 l')))) a w' ->
   Rel G (σ.upd ss1 (some (σ.heap.set a0 (.arr 1 l')))) (a.put o.dst (.int .i64 (N2:Int))) w':=by
  intro w' R';rcases hcase with ⟨hd,rfl⟩ | ⟨d,hd,rfl,hlt,hbx⟩
  ·rw [hd];simpa [Act.put,St.upd,a0r] using R'
  rw [hd];have hrep:RepV G w' (.s d) (.d (.int .i64 (N2:Int))) (.int .i64 (N2:Int)) := .d _ _ _ (.int _ _);have:=R'.put (d:=d) hrep (fun r off e=>by cases e) (by rw [hgd d hd] at hbx;exact hbx) hlt;simpa [St.upd,a0r] using this
 have hmin:Nat.min N2 N1=N2:=Nat.min_eq_left (by omega);have hmin':min N2 N1=N2:=hmin;simp only [Int.toNat_natCast] at hv hbo hv2 hbo2;by_cases hz:N2=0
 ·subst hz;have hll:l'=l:=by rw [hl''];simp
  have hset:σ.heap.set a0 (.arr 1 l')=σ.heap:=by
   rw [hll];apply List.ext_getElem?;intro i;by_cases hi:a0=i
   ·subst hi;rw [List.getElem?_set_self (zp2.1 hHi).1,hHi]
   rw [List.getElem?_set_ne hi]
  have hrun:(execOp a.eval o).run P w = .ok (.value (.int .i64 0)) w:=by
   simp [execOp,hop,resolve,invoke,Go.builtin,Builtin.copy_,hv,hv2,Go.underlying,hT.slice hTt,hT.size hTe,Builtin.lenOf,hks,Builtin.firstCells,loadCells,loadCellsFrom,storeCells,goInt]
  have:=hdst' w (by rw [hset];simpa [St.upd,a0r] using R);refine a0y hnd hrun (hn G _ _ this (Ext.refl _ _ _))
 obtain ⟨rfl,rfl⟩:=hbo (by omega);obtain ⟨rfl,rfl⟩:=hbo2 (by omega);let zs:List Value:=(List.range (N2*k)).map fun j=>vs.getD (L2*k+j) Go.undef;have hzl:zs.length=N2*k:=by simp [zs]
 have hzg : ∀ q,q<N2*k->zs.getD q Go.undef=vs.getD (L2*k+q) Go.undef:=by
  intro q hq;simp [zs,List.getD,hq]
 have hld:=run_loadCells (P:=P) w ⟨G.β (.o a0),L2*k,none⟩ (N2*k) (fun j=>vs.getD (L2*k+j) Go.undef) (fun j hj=>by
  rw [Addr.add_none];exact a0V hw (by omega))
 have hst:=run_storeCells_at P (G.β (.o a0)) (LO*k) ec zs 0 vs w hw (by omega) (fun v hv=>by
  obtain ⟨q,hq,rfl⟩:=List.mem_iff_getElem.1 hv;have hq':q<N2*k:=by omega
  have:=hzg q hq';rw [List.getD_eq_getElem?_getD,zp1 hq] at this;simp only [Option.getD_some] at this;rw [this];exact hone _ (by omega))
 simp only [Nat.add_zero] at hst;have hrun:(execOp a.eval o).run P w = .ok (.value (.int .i64 (N2:Int))) (w.setRow (G.β (.o a0)) (rowOf vs (LO*k) zs)):=by
  have hfc:(Builtin.firstCells k N2 (.slice (some ⟨G.β (.o a0),L2*k,none⟩) N2 cap2)).run P w = .ok zs.toArray w:=by
   simp [Builtin.firstCells,hld,zs]
  simp [execOp,hop,resolve,invoke,Go.builtin,Builtin.copy_,hv,hv2,Go.underlying,hT.slice hTt,hT.size hTe,Builtin.lenOf,hks,hmin,hmin',hfc,hst,rowOf,goInt]
 have huf:a0k 1 l':=by
  intro x hx;rw [hl''] at hx;simp only [List.mem_append] at hx;rcases hx with (hx | hx) | hx
  ·exact hu x (List.mem_of_mem_take hx)
  ·exact hu x (List.mem_of_mem_drop (List.mem_of_mem_take hx))
  exact hu x (List.mem_of_mem_drop hx)
 have hll:l'.length=l.length:=by rw [hl''];simp;omega
 have hff:(D.flat l').length=(D.flat l).length:=by rw [a0b huf,a0b hu,hll]
 have hflat:D.flat l'=(D.flat l).take (LO*k)++((D.flat l).drop (L2*k)).take (N2*k)++(D.flat l).drop (LO*k+N2*k):=by
  have e1:=a1g hu (n:=LO*k);have e2:=a1Q hu (n:=LO*k+N2*k);have e3:=a1Q hu (n:=L2*k);have e4:=a1g (l:=l.drop (L2*k)) (k:=1) (n:=N2*k) (fun x hx=>hu x (List.mem_of_mem_drop hx));simp only [Nat.mul_one] at e1 e2 e3 e4;rw [hl'',a0C,a0C,e1,e2,e4,e3]
 have hrs:LO*k+zs.length<=vs.size:=by rw [hzl];omega
 have hget : ∀ q,q<(D.flat l').length -> ∃ q',q'<(D.flat l).length/\(D.flat l')[q]?=(D.flat l)[q']?/\(rowOf vs (LO*k) zs).getD q Go.undef=vs.getD q' Go.undef:=by
  intro q hq;rw [a1x hrs,hzl,hflat];have hlen1:((D.flat l).take (LO*k)).length=LO*k:=by simp;omega
  have hlen2:(((D.flat l).drop (L2*k)).take (N2*k)).length=N2*k:=by simp;omega
  by_cases c1:q<LO*k
  ·refine ⟨q,by omega,?_,by rw [if_pos c1]⟩;rw [List.append_assoc,zp7 (by omega),List.getElem?_take_of_lt c1]
  by_cases c2:q<LO*k+N2*k
  ·refine ⟨L2*k+(q-LO*k),by omega,?_,by rw [if_neg c1,if_pos c2,hzg _ (by omega)]⟩;rw [List.append_assoc,zp8 (by omega),hlen1,zp7 (by omega),List.getElem?_take_of_lt (by omega),List.getElem?_drop]
  refine ⟨q,by omega,?_,by rw [if_neg c1,if_neg c2]⟩;rw [zp8 (by simp;omega),List.getElem?_drop];congr 1;simp only [List.length_append,hlen1,hlen2];omega
 have each : ∀ (q:Nat) (hq:q<(D.flat l').length),RepD G.K (D.flat l')[q] ((rowOf vs (LO*k) zs).getD q Go.undef)/\((rowOf vs (LO*k) zs).getD q Go.undef).oneCell'=true:=by
  intro q hq;obtain ⟨q',h1,h2,h3⟩:=hget q hq;rw [zp1 hq,zp1 h1] at h2;rw [h3,Option.some.inj h2];exact ⟨hh q' h1,hone q' h1⟩
 obtain ⟨hcore,hext⟩:=a1B R hHi hw (l':=l') (row:=rowOf vs (LO*k) zs) huf (by rw [a0X hrs];omega) (fun q hq=>(each q hq).2) (fun q hq=>(each q hq).1);exact a0y hnd hrun (hn G _ _ (hdst' _ hcore) (hext m))
theorem b0t {y k:Nat} {a0:Nat} {lo ln:Int} {l:List D} (hy:g y = .mref a0 k lo ln) (hHi:σ.heap[a0]?=some (.arr k l)) (hc:lo+ln<=(l.length:Int)) {G:Gh} {a:Act} {w:World} (R:Rel G σ a w) :
  a0k k (Ar.std.sub l lo (lo+ln))/\(∃ b cap,a.eval (.tmp y) = .slice b (Ar.std.sub l lo (lo+ln)).length cap) /\ ∀ w':World,w'.heap=w.heap -> ∃ arr:Array Value,(Builtin.firstCells k (Ar.std.sub l lo (lo+ln)).length (a.eval (.tmp y))).run P w' = .ok arr w'/\arr.size=(D.flat (Ar.std.sub l lo (lo+ln))).length /\
   ∀ (q:Nat) (hq:q<(D.flat (Ar.std.sub l lo (lo+ln))).length),RepD G.K (D.flat (Ar.std.sub l lo (lo+ln)))[q] (arr.getD q Go.undef)/\(arr.getD q Go.undef).oneCell'=true:=by
 obtain ⟨b,off,cap,hv,hnh,hlo,hn0,hcap,hbo⟩:=a1r hg R (x := .tmp y) hy;obtain ⟨vs,ec,hO,hw,hu,hsz,hone,hh⟩:=R.h.objs a0 _ hHi;obtain ⟨LO,rfl⟩:=zp9 hlo;obtain ⟨N,rfl⟩:=zp9 hn0;have hfl:=a0b hu;have e0:Ar.std.sub l (LO:Int) ((LO:Int)+(N:Int))=(l.drop LO).take N:=by
  simp only [Ar.std];have:((LO:Int)+(N:Int)).toNat-(LO:Int).toNat=N:=by omega
  rw [this];rfl
 rw [e0];have hln:((l.drop LO).take N).length=N:=by simp;omega
 have huf:a0k k ((l.drop LO).take N):=fun x hx=>hu x (List.mem_of_mem_drop (List.mem_of_mem_take hx));have hff:=a0b huf;rw [hln] at hff;refine ⟨huf,⟨_,cap,by rw [hln];simpa using hv⟩,fun w' hw' => ?_⟩;rw [hln,hv];simp only [Int.toNat_natCast];have hmul:LO*k+N*k<=l.length*k:=by rw [<-Nat.add_mul];exact Nat.mul_le_mul_right _ (by omega)
 rcases Nat.eq_zero_or_pos N with h0 | h0
 ·subst h0;refine ⟨#[],by simp [Builtin.firstCells,loadCells,loadCellsFrom],?_,fun q hq => ?_⟩
  ·rw [hff];simp
  rw [hff] at hq;omega
 obtain ⟨rfl,rfl⟩:=hbo (by omega);simp only [Int.toNat_natCast];have hl:=run_loadCells (P:=P) w' ⟨G.β (.o a0),LO*k,none⟩ (N*k) (fun j=>vs.getD (LO*k+j) Go.undef) (fun j hj=>by
  rw [Addr.add_none];have:=a0V hw (show LO*k+j<vs.size by omega);unfold World.cell? at *
  rwa [hw'])
 refine ⟨((List.range (N*k)).map fun j=>vs.getD (LO*k+j) Go.undef).toArray,by simp [Builtin.firstCells,hl],by simp [hff],fun q hq => ?_⟩;rw [hff] at hq;have e1:((List.range (N*k)).map fun j=>vs.getD (LO*k+j) Go.undef).toArray.getD q Go.undef=vs.getD (LO*k+q) Go.undef:=by
  simp [hq]
 rw [e1];have e2:D.flat ((l.drop LO).take N)=((D.flat l).drop (LO*k)).take (N*k):=by
  rw [a1g (fun x hx=>hu x (List.mem_of_mem_drop hx)),a1Q hu]
 have hj:LO*k+q<(D.flat l).length:=by omega
 have e3:(D.flat ((l.drop LO).take N))[q]'(by rw [hff];exact hq)=(D.flat l)[LO*k+q]:=by
  apply Option.some.inj;rw [<-zp1,<-zp1,e2,List.getElem?_take_of_lt hq,List.getElem?_drop]
 rw [e3];exact ⟨hh _ hj,hone _ hj⟩
theorem b3t {s y d:Nat} {t u:TypeId} (hop:o.op = .call { callee := .builtin .append,args := #[.tmp s,.tmp y],argTypes := #[t,u] }) {a0 k:Nat} {lo ln:Int} {l ll:List D}
  (hs:(g s).ownOf=some (k,l)) (hy:g y = .mref a0 k lo ln) (het:a0h T t=some k) (heu:a0h T u=some k) (hHi:σ.heap[a0]?=some (.arr k ll)) (hk:0<k) (hd:o.dst=some d) (hlt:d<σ.n) (hbx:(g d).isBox=false) (hsd : ¬ s=d)
  (hc:lo+ln<=(ll.length:Int)) (hfits:(l.length:Int)+(Ar.std.sub ll lo (lo+ln)).length<4294967296):a0f P σ o [(s,.d (.list k l)),(d,.own k (l++Ar.std.sub ll lo (lo+ln)))] none:=by
 have hcase:g s = .own k l\/(g s = .lim k []/\l=[]):=by
  unfold AV.ownOf at hs;split at hs
  ·rename_i h;cases hs;exact .inl h
  ·rename_i h;cases hs;exact .inr ⟨h,rfl⟩
  cases hs
 rcases hcase with hgs | ⟨hgs,rfl⟩
 ·have h9:=hg.eq hgs (by simp);exact a3a (z:=true) hT hg hgd hop het heu (fun R=>b0t hT hg hgd hy hHi hc R) hd (.inl h9) (fun h=>by cases h) hk hlt hbx hsd hfits
 have hσ:=hg.eq hgs (by simp);intro r n m G a w Q next hm R hn
 have R':=R.unlimS hσ;let g':Nat->AV:=fun q=>if q=s then .own k [] else g q
 have hg':Less g' (σ.upd [(s,.own k [])] none):=by
  intro q;simp only [g',St.upd,St.get,a0r,List.foldl_cons,List.foldl_nil,a0d];by_cases hq:q=s
  ·subst hq;simp
  rw [if_neg hq,if_neg (Ne.symm hq)];exact hg q
 have hgd' : ∀ d,o.dst=some d->g' d=(σ.upd [(s,.own k [])] none).get d:=by
  intro d' hd';rw [hd] at hd';cases hd';simp only [g',St.upd,St.get,a0r,List.foldl_cons,List.foldl_nil,a0d];rw [if_neg (Ne.symm hsd),if_neg hsd];exact hgd d hd
 have hys : ¬ y=s:=by rintro rfl;rw [hgs] at hy;cases hy
 have hy':g' y = .mref a0 k lo ln:=by simp only [g'];rw [if_neg hys];exact hy
 have hHi':(σ.upd [(s,.own k [])] none).heap[a0]?=some (.arr k ll):=hHi;have key:=a3a (σ:=σ.upd [(s,.own k [])] none) (z:=true) hT hg' hgd' hop het heu (fun R=>b0t hT hg' hgd' hy' hHi' hc R) hd (.inl (by simp [St.upd,St.get,a0r,a0d,AV.ownZ])) (fun h=>by cases h) hk hlt (by simp only [g'];rw [if_neg (Ne.symm hsd)];exact hbx) hsd hfits;refine key r n m G a w Q next hm R' (fun G' a' w' R2 hE=>hn G' a' w' ?_ hE)
 have e:(σ.upd [(s,.own k [])] none).upd [(s,.d (.list k [])),(d,AV.ownZ true k ([]++Ar.std.sub ll lo (lo+ln)))] none=σ.upd [(s,.d (.list k [])),(d,.own k ([]++Ar.std.sub ll lo (lo+ln)))] none:=by
  simp only [St.upd,a0r,List.foldl_cons,List.foldl_nil,a5x,AV.ownZ,if_true]
  rfl
 rw [e] at R2;exact R2
theorem b5F (hHe:a0P an g o=true->H=σ.heap) (h:a6W Ar.std T σ.n g H o=some (some (ss,h'))):a0f P σ o ss h':=by
 unfold a6W at h;split at h
 ·rename_i t s x hop;split at h
  ·rename_i a0 k lo ln hs;have hHσ:H=σ.heap:=hHe (by simp [a0P,hop,hs]);subst hHσ;split at h
   ·rename_i ll hHi;split at h
    ·cases h
    simp only [zp3] at h;split at h
    ·rename_i sz e zc kz z ht hi;split at h
     ·rename_i td hte;split at h
      ·rename_i hc;simp [Ar.std] at hc;exact b5E hT hg hgd hop hs ht hte hi hc.1.1 hc.1.2 hc.2 h
      cases h
     cases h
    cases h
   cases h
  cases h
 ·rename_i t s lo hi hop;split at h
  ·rename_i a0 i j hb;have hHσ:H=σ.heap:=hHe (by
    unfold a4d at hb;split at hb
    ·rename_i hs;simp [a0P,hop,hs]
    ·rename_i hs;simp [a0P,hop,hs]
    cases hb)
   subst hHσ;split at h
   ·rename_i ll hHi;simp only [zp3] at h;split at h
    ·rename_i sz m e z ht;split at h
     ·rename_i td zh zl hte hbh hbl;split at h
      ·rename_i hc;simp [Ar.std] at hc;obtain ⟨⟨⟨⟨h1,h2⟩,h3⟩,h4⟩,h5⟩:=hc;split at h
       ·rename_i h6;have h':=h;rw [<-h6] at h';exact b0s hT hg hgd hop hb ht hte hbh hbl h1 h2 (by simpa using h3) h4 (q:=i+(j:Int)) h4 (by rw [h6];simp) (by rw [h6];rw [h6] at h';exact h')
       split at h
       ·rename_i hq;simp only [zp4] at hq;have hq1:0<=Ar.std.quo .i64 (Ar.std.zadd i (Int.ofNat j)) (Int.ofNat td.size):=by simpa [Ar.std] using hq.1
        have hq2:Ar.std.quo .i64 (Ar.std.zadd i (Int.ofNat j)) (Int.ofNat td.size)*(td.size:Int)=i+(j:Int):=by simpa [Ar.std] using hq.2
        exact b0s hT hg hgd hop hb ht hte hbh hbl h1 h2 (by simpa using h3) h4 hq1 hq2 h
       cases h
      cases h
     cases h
    cases h
   cases h
  cases h
 ·rename_i t s hi mx hop;split at h
  ·rename_i a0 k l0 ln hs;simp only [zp3] at h;split at h
   ·rename_i es zh zm hes hbh hbm;split at h
    ·rename_i hc;simp only [zp4,decide_eq_true_eq] at hc;obtain ⟨⟨h1,rfl⟩,rfl⟩:=hc;exact b8e hT hg hgd hop hs hes hbh hbm h1 h
    cases h
   cases h
  cases h
 ·rename_i t s t' hop;split at h
  ·rename_i a0 k l0 ln hs;simp only [zp3] at h;split at h
   ·rename_i sz e z ht;exact c0n hT hg hgd hop ht hs h
   cases h
  cases h
 ·rename_i args ts hop;split at h
  ·rename_i s y t u hargs hts;obtain rfl:args = #[.tmp s,.tmp y]:=by cases args;simp_all
   obtain rfl:ts = #[t,u]:=by cases ts;simp_all
   split at h
   ·rename_i a0 k lo n1 a1 k1 lo2 n2 hs hy;have hHσ:H=σ.heap:=hHe (by simp [a0P,hop,hs]);subst hHσ;simp only [zp3] at h;split at h
    ·rename_i es l het hHi;split at h
     ·rename_i hc;simp [Ar.std] at hc;obtain ⟨⟨⟨⟨⟨⟨q1,q2⟩,q3⟩,hk⟩,hc1⟩,hc2⟩,hc3⟩:=hc;subst q1 q2 q3;simp only [Option.map_eq_some_iff] at h;obtain ⟨⟨ss1,h1⟩,hp,he⟩:=h;simp only [Prod.mk.injEq] at he;obtain ⟨rfl,rfl⟩:=he;exact b8f hT hg hgd hop hs hy het hHi hk hc1 hc2 hc3 hp
     cases h
    cases h
   cases h
  cases h
 ·rename_i args ts hop;split at h
  ·rename_i s y t u d hargs hts hd;obtain rfl:args = #[.tmp s,.tmp y]:=by cases args;simp_all
   obtain rfl:ts = #[t,u]:=by cases ts;simp_all
   split at h
   ·rename_i a0 k2 lo ln k1 l hy hs;have hHσ:H=σ.heap:=hHe (by simp [a0P,hop,hy]);subst hHσ;simp only [zp3] at h;split at h
    ·rename_i k k1' k3 ll het heu hHi;split at h
     ·rename_i hc;simp only [zp4,decide_eq_true_eq,Bool.not_eq_true'] at hc;obtain ⟨⟨⟨⟨⟨⟨⟨⟨⟨q1,q2⟩,q3⟩,q4⟩,hk⟩,hlt⟩,hbx⟩,hsd⟩,hc1⟩,hc2⟩:=hc;subst q1 q2 q3 q4;simp only [zp3,Prod.mk.injEq] at h;obtain ⟨rfl,rfl⟩:=h;exact b3t hT hg hgd hop hs hy het heu hHi hk hd hlt hbx hsd (by simpa [Ar.std] using hc1) (by simpa [Ar.std] using hc2)
     cases h
    cases h
   cases h
  cases h
 cases h
end
theorem b3u {A:Ar} {T:a0i} {n:Nat} {g:Nat->AV} {H H':List Obj} {o:Oper} {ss:a1C} (h:a6W A T n g H o=some (some (ss,some H'))):H.length<=H'.length:=by
 unfold a6W at h
 repeat' split at h
 all_goals first
  | (cases h;done)
  | (simp only [zp3] at h;exact absurd (a0G h).1 (by simp))
  | (simp at h;done)
  | (simp only [zp3,Option.map_eq_some_iff] at h
     obtain ⟨p,_,hp⟩:=h;simp only [Prod.mk.injEq,zp3] at hp;rw [<-hp.2];simp)
section
variable {P:Program} {T:a0i} (hT:TOk P T) {σ:St} {g:Nat->AV} {o:Oper} {ss:a1C} {h':Option (List Obj)} {H:List Obj} {an:Ann}
 (hg:Less g σ) (hgd : ∀ d,o.dst=some d->g d=σ.get d)
include hT hg hgd
end
def Gh.jag (G:Gh) (mv:Loc->Option Nat) (N b cap len:Nat):Gh where
 K:=G.K
 O:=fun x=>if 0<cap/\x=b then some (.o N,0) else match G.O x with
  | some (ℓ,f)=>match mv ℓ with | some j=>some (.oc N j,f) | none=>some (ℓ,f)
  | none=>none
 β:=fun r=>if r = .o N then b else if r = .o (N+1) then cap else if r = .o (N+2) then len else G.β r
 nh:=N+3
section
variable {P:Program} {T:a0i} (hT:TOk P T) {σ:St} {g:Nat->AV} {o:Oper} {ss:a1C} {h':Option (List Obj)} {H:List Obj} {an:Ann}
 (hg:Less g σ) (hgd : ∀ d,o.dst=some d->g d=σ.get d)
include hT hg hgd
end
section
variable {P:Program} {T:a0i} (hT:TOk P T) {σ:St} {g:Nat->AV} {o:Oper} {ss:a1C} {h':Option (List Obj)} {H:List Obj} {an:Ann}
 (hg:Less g σ) (hgd : ∀ d,o.dst=some d->g d=σ.get d)
include hT hg hgd
theorem b5G (hH : ∀ (i:Nat) (ob:Obj),H[i]?=some ob->σ.heap[i]?=some ob) (hHe:a0P an g o=true->H=σ.heap) (h:b2M Ar.std T an σ.n g H o=some (some (ss,h'))):a0f P σ o ss h':=by
 cases h
end
theorem b3v {A:Ar} {T:a0i} {an:Ann} {n:Nat} {g:Nat->AV} {H H':List Obj} {o:Oper} {ss:a1C} (h:b2M A T an n g H o=some (some (ss,some H'))):H.length<=H'.length:=by
 cases h
theorem b3w {P:Program} {T:a0i} (hT:TOk P T) {σ:St} {g:Nat->AV} {o:Oper} {ss:a1C} {h':Option (List Obj)} {H:List Obj} {an:Ann}
  (hg:Less g σ) (hgd : ∀ d,o.dst=some d->g d=σ.get d) (hH : ∀ (i:Nat) (ob:Obj),H[i]?=some ob->σ.heap[i]?=some ob) (hHe:a0P an g o=true->H=σ.heap)
  (h:a0E Ar.std T an σ.n g H o=some (ss,h')):a0f P σ o ss h':=by
 have h0:=h;cases hop:o.op with
 | move x=>exact a8h hg hgd h (.inl hop)
 | assign x=>exact a8h hg hgd h (.inr hop)
 | pick c a b=>exact b2R hg hgd h hop
 | alloc t=>exact b1R hT hg hgd hHe h hop
 | box t x=>exact b5j hT hg hgd hHe h hop
 | build t ps=>exact b1T hT hg hgd h hop
 | buildSlice t n ps=>exact a5D hT hg hgd h hop
 | load t x=>exact b2W hT hg hgd hH h hop hHe
 | store t x y=>exact b1S hT hg hHe h hop
 | binOp op t x y t'=>exact b1N hg hgd h hop
 | unOp op t x =>
   cases op with
   | not=>exact b2S hg hgd h hop
   | _=>simp [a0E,hop] at h
 | convert s t x=>exact a8g hT hg hgd h hop
 | makeFunc fn a b =>
   cases fn with
   | func f=>exact a6Z hg hgd h hop
   | _=>simp [a0E,hop] at h
 | slice t x a b c=>exact b1P hT hg hgd h hop
 | fieldAddr t x f=>exact a6r hT hg hgd h hop
 | field t x f=>exact b1O hT hg hgd h hop
 | indexAddr t x i=>exact a6s hT hg hgd h hop
 | extract x i=>exact a8f hg hgd h hop
 | call c =>
   obtain ⟨callee,args,ts⟩:=c;cases callee with
   | builtin b =>
     cases b with
     | len=>exact b5i hT hg hgd h hop
     | append=>exact a9p hT hg hgd h hop
     | _=>simp [a0E,hop] at h
   | _=>simp [a0E,hop] at h
 | _=>simp [a0E,hop] at h
theorem a8v {P:Program} {T:a0i} (hT:TOk P T) {σ:St} {g:Nat->AV} {o:Oper} {ss:a1C} {h':Option (List Obj)} {H:List Obj} {an:Ann}
  (hg:Less g σ) (hgd : ∀ d,o.dst=some d->g d=σ.get d) (hH : ∀ (i:Nat) (ob:Obj),H[i]?=some ob->σ.heap[i]?=some ob) (hHe:a0P an g o=true->H=σ.heap)
  (h:a2s Ar.std T an σ.n g H o=some (ss,h')):a0f P σ o ss h':=by
 unfold a2s at h;split at h
 ·rename_i r hr;subst h;exact b3d hT hg hgd hr
 split at h
 ·rename_i r hr;subst h;exact b5G hT hg hgd hH hHe hr
 split at h
 ·rename_i r hr;subst h;exact b5F hT hg hgd hHe hr
 split at h
 ·rename_i r hr;subst h;exact b5w hT hg hgd hHe hr
 split at h
 ·rename_i r hr;subst h;exact b5D hT hg hgd hH hHe hr
 split at h
 ·rename_i r hr;subst h;exact b5B hT hg hgd hH hHe hr
 split at h
 ·rename_i r hr;subst h;exact b5u hT hg hgd hH hHe hr
 split at h
 ·rename_i r hr;subst h;exact b5p hT hg hgd hH hHe hr
 exact b3w hT hg hgd hH hHe h
def Post (m:Nat) (G:Gh) (w:World) (Q:Exit->St->Prop):Exit->Act->World->Prop :=
 fun e a' w' => ∃ σ' G',Rel G' σ' a' w'/\Ext m G w G' w'/\m<=G'.nh/\Q e σ'
theorem Post.ext {m:Nat} {G G1:Gh} {w w1:World} {Q:Exit->St->Prop} (h:Ext m G w G1 w1) {e:Exit} {a:Act} {w':World} (hp:Post m G1 w1 Q e a w'):Post m G w Q e a w':=by
 obtain ⟨σ',G',R,hE,hm,hq⟩:=hp;exact ⟨σ',G',R,h.trans hE,hm,hq⟩
def AWp (P:Program) (m:Nat) (c:Code) (Q:Exit->St->Prop) (σ:St):Prop :=
 ∀ (r:Option Nat) (n:Nat) (G:Gh) (a:Act) (w:World),m<=G.nh->Rel G σ a w->c.wpIn (Wd r) n P (Post m G w Q) a w
def a2J (P:Program) (m:Nat) (c:Code) (Q:Exit->St->Prop) (σ:St):Prop :=
 ∀ (n:Nat) (G:Gh) (a:Act) (w:World),m<=G.nh->Rel G σ a w->c.wpIn (Wd none) n P (Post m G w Q) a w
theorem a2J.of {P:Program} {m:Nat} {c:Code} {Q:Exit->St->Prop} {σ:St} (h:AWp P m c Q σ):a2J P m c Q σ:=fun n G a w hm R=>h none n G a w hm R
def AExit.then (K:St->Prop) (Q:Exit->St->Prop):Exit->St->Prop
 | .normal,σ=>K σ
 | e,σ=>Q e σ
def AExit.block (id:Nat) (Q:Exit->St->Prop):Exit->St->Prop
 | .exit j,σ=>if j=id then Q .normal σ else Q (.exit j) σ
 | e,σ=>Q e σ
section
variable {P:Program} {m:Nat} {Q:Exit->St->Prop} {σ:St}
theorem AWp.mono {c:Code} {Q':Exit->St->Prop} (h:AWp P m c Q σ) (hq : ∀ e σ,Q e σ->Q' e σ):AWp P m c Q' σ:=by
 intro r n G a w hm R;refine wpIn_mono (h r n G a w hm R) ?_;rintro e a' w' ⟨σ',G',R',hE,hm',hQ⟩;exact ⟨σ',G',R',hE,hm',hq _ _ hQ⟩
theorem AWp.skip (h:Q .normal σ):AWp P m .skip Q σ:=fun _ _ G _ _ hm R=>wpIn_skip ⟨σ,G,R,Ext.refl _ _ _,hm,h⟩
theorem AWp.exit {id:Nat} (h:Q (.exit id) σ):AWp P m (.exit id) Q σ:=fun _ _ G _ _ hm R=>wpIn_exit ⟨σ,G,R,Ext.refl _ _ _,hm,h⟩
theorem AWp.ret (h:Q .ret σ):AWp P m .ret Q σ:=fun _ _ G _ _ hm R=>wpIn_ret ⟨σ,G,R,Ext.refl _ _ _,hm,h⟩
theorem AWp.seq {x y:Code} (h:AWp P m x (AExit.then (AWp P m y Q) Q) σ):AWp P m (.seq x y) Q σ:=by
 intro r n G a w hm R;refine wpIn_seq (wpIn_mono (h r n G a w hm R) ?_);rintro e a' w' ⟨σ',G',R',hE,hm',hQ⟩;cases e with
 | normal=>exact wpIn_mono (hQ r n G' a' w' hm' R') (fun e a w hp=>hp.ext hE)
 | _=>exact ⟨σ',G',R',hE,hm',hQ⟩
theorem a2J.mono {c:Code} {Q':Exit->St->Prop} (h:a2J P m c Q σ) (hq : ∀ e σ,Q e σ->Q' e σ):a2J P m c Q' σ:=by
 intro n G a w hm R;refine wpIn_mono (h n G a w hm R) ?_;rintro e a' w' ⟨σ',G',R',hE,hm',hQ⟩;exact ⟨σ',G',R',hE,hm',hq _ _ hQ⟩
theorem a2J.seq {x y:Code} (h:a2J P m x (AExit.then (a2J P m y Q) Q) σ):a2J P m (.seq x y) Q σ:=by
 intro n G a w hm R;refine wpIn_seq (wpIn_mono (h n G a w hm R) ?_);rintro e a' w' ⟨σ',G',R',hE,hm',hQ⟩;cases e with
 | normal=>exact wpIn_mono (hQ n G' a' w' hm' R') (fun e a w hp=>hp.ext hE)
 | _=>exact ⟨σ',G',R',hE,hm',hQ⟩
theorem AWp.cond {c:Operand} {x y:Code} {b:Bool} (hc:(match c with | .tmp t=>σ.get t | .const (.bool b) => .d (.bool b) | _ => .undef) = .d (.bool b)) (h:AWp P m (if b then x else y) Q σ):AWp P m (.cond c x y) Q σ:=by
 intro r n G a w hm R;refine wpIn_cond (t:=b) ?_ (h r n G a w hm R);split at hc
 ·rename_i t;have:=R.slots t;rw [hc] at this;show a.tmps.getD t Go.undef=_;generalize a.tmps.getD t Go.undef=v at this;cases this with | d _ _ _ h=>cases h;rfl
 ·rename_i b';simp at hc;subst hc;rfl
 cases hc
theorem AWp.block {id:Nat} {c:Code} (h:AWp P m c (AExit.block id Q) σ):AWp P m (.block id c) Q σ:=by
 intro r n G a w hm R;refine wpIn_block (wpIn_mono (h r n G a w hm R) ?_);rintro e a' w' ⟨σ',G',R',hE,hm',hQ⟩;cases e with
 | exit j =>
   simp only [AExit.block] at hQ;simp only [Exit.inBlock];split at hQ
   ·rename_i hj;rw [if_pos hj];exact ⟨σ',G',R',hE,hm',hQ⟩
   rename_i hj;rw [if_neg hj];exact ⟨σ',G',R',hE,hm',hQ⟩
 | _=>exact ⟨σ',G',R',hE,hm',hQ⟩
theorem a2J.block {id:Nat} {c:Code} (h:a2J P m c (AExit.block id Q) σ):a2J P m (.block id c) Q σ:=by
 intro n G a w hm R;refine wpIn_block (wpIn_mono (h n G a w hm R) ?_);rintro e a' w' ⟨σ',G',R',hE,hm',hQ⟩;cases e with
 | exit j =>
   simp only [AExit.block] at hQ;simp only [Exit.inBlock];split at hQ
   ·rename_i hj;rw [if_pos hj];exact ⟨σ',G',R',hE,hm',hQ⟩
   rename_i hj;rw [if_neg hj];exact ⟨σ',G',R',hE,hm',hQ⟩
 | _=>exact ⟨σ',G',R',hE,hm',hQ⟩
theorem AWp.loop {ι:Type} {c:Code} (μ:ι->Nat) (S:ι->St) (i0:ι) (h : ∀ i,AWp P m c (AExit.then (fun σ' => ∃ j,μ j<μ i/\σ'=S j) Q) (S i)):AWp P m (.loop c) Q (S i0):=by
 intro r n G a w hm R b k cs hro hb hr;have key : ∀ (q:Nat) (i:ι),μ i=q -> ∀ (G1:Gh) (a:Act) (w1:World),m<=G1.nh->Rel G1 (S i) a w1->Ext m G w G1 w1 ->
   ∃ e a' w',Post m G w Q e a' w'/\ArrivesIn (Machine.fenced P (Wd r)) P (lone (b.atR a (.code c :: .inLoop c::k)) cs w1) b k cs e a' w':=by
  intro q
  induction q using Nat.strongRecOn with
  | _ q ih =>
    intro i hi G1 a w1 hm1 R1 hE1;obtain ⟨e,a₁,w₁,hq,harr⟩:=h i r n G1 a w1 hm1 R1 b (.inLoop c::k) cs hro hb hr;obtain ⟨σ',G',R',hE,hm',hQ⟩:=hq;cases e with
    | normal =>
      obtain ⟨j,hlt,rfl⟩:=hQ;obtain ⟨e₂,a₂,w₂,hq₂,harr₂⟩:=ih (μ j) (hi▸hlt) j rfl G' a₁ w₁ hm' R' (hE1.trans hE);exact ⟨e₂,a₂,w₂,hq₂,.of_steps (StepsIn.trans harr (.one (fenced_calm hb hr rfl) stepR_inLoop)) harr₂⟩
    | exit id=>exact ⟨_,a₁,w₁,⟨σ',G',R',hE1.trans hE,hm',hQ⟩,.pass (x := .inLoop c) rfl (fun _ _ => .inl (by simp)) harr⟩
    | goto l=>exact ⟨_,a₁,w₁,⟨σ',G',R',hE1.trans hE,hm',hQ⟩,.pass (x := .inLoop c) rfl (fun _ _ => .inl (by simp)) harr⟩
    | ret=>exact ⟨_,a₁,w₁,⟨σ',G',R',hE1.trans hE,hm',hQ⟩,.pass (x := .inLoop c) rfl (fun _ _ => .inl (by simp)) harr⟩
    | panic ch=>exact ⟨_,a₁,w₁,⟨σ',G',R',hE1.trans hE,hm',hQ⟩,.pass (x := .inLoop c) rfl (fun _ _ => .inl (by simp)) harr⟩
    | outgrown=>exact ⟨_,a₁,w₁,⟨σ',G',R',hE1.trans hE,hm',hQ⟩,.pass (x := .inLoop c) rfl (fun _ _ => .inl (by simp)) harr⟩
 obtain ⟨e,a',w',hq,harr⟩:=key _ i0 rfl G a w hm R (Ext.refl _ _ _);exact ⟨e,a',w',hq,.of_steps (.one (fenced_calm hb hr rfl) stepR_loop) harr⟩
end
def a2l (ops:List Oper) (σ:St) (o:Oper):Option Bool :=
 match o.guard with
 | none=>some true
 | some (j,b) =>
   match (ops[j]?).bind (·.dst) with
   | none=>some false
   | some d =>
     match σ.get d with
     | .d (.bool x)=>some (x == b)
     | .tuple []=>some false
     | _=>none
theorem a2m {ops:Array Oper} {σ:St} {o:Oper} {b:Bool} (h:a2l ops.toList σ o=some b) {G:Gh} {a:Act} {w:World} (R:Rel G σ a w):Region.wanted o (yielded ops a.tmps)=b:=by
 unfold a2l at h;unfold Region.wanted;cases hgu:o.guard with
 | none=>simp [hgu] at h;simp [h]
 | some p =>
   obtain ⟨j,b'⟩:=p;simp only [hgu] at h;simp only [yielded];cases hd:(ops[j]?).bind (·.dst) with
   | none =>
     have hd':(ops.toList[j]?).bind (·.dst)=none:=by simpa using hd
     simp only [hd'] at h;simp at h;subst h;simp
   | some d =>
     have hd':(ops.toList[j]?).bind (·.dst)=some d:=by simpa using hd
     simp only [hd'] at h;have hrep:=R.slots d;simp only [Option.bind_some];split at h
     ·rename_i x hx;rw [hx] at hrep;simp at h;generalize hv:a.tmps.getD d Go.undef=v at hrep;cases hrep with | d _ _ _ hr =>
      cases hr;have:a.tmps[d]?=some (.bool x):=by
       rw [zp5] at hv;cases he:a.tmps[d]? with
       | none=>rw [he] at hv;simp [Go.undef] at hv
       | some y=>rw [he] at hv;simpa using hv
      simp only [this];rw [<-h];cases x <;> cases b' <;> rfl
     ·rename_i hx;rw [hx] at hrep;simp at h;subst h;generalize hv:a.tmps.getD d Go.undef=v at hrep;cases hrep with | tuple _ _ vs hs _ _ =>
      have : ∀ x,a.tmps[d]?≠some (.bool x):=by
       intro x he;rw [zp5,he] at hv;simp at hv
      split
      ·rename_i x he;exact absurd he (this x)
      simp
     simp at h
def a1D (P:Program) (m:Nat) (ops:Array Oper) (l:List Oper) (Q:Exit->St->Prop) (σ:St):Prop :=
 ∀ (r:Option Nat) (n:Nat) (G:Gh) (a:Act) (w:World) (Q':Exit->Act->World->Prop),m<=G.nh->Rel G σ a w->(∀ e a' w',Post m G w Q e a' w'->Q' e a' w')->wpListIn (Wd r) n P ops Q' l a w
section
variable {P:Program} {m:Nat} {Q:Exit->St->Prop} {σ:St} {ops:Array Oper} {o:Oper} {l:List Oper}
theorem a1D.nil (h:Q .normal σ):a1D P m ops [] Q σ:=fun _ _ G a w _ hm R hQ=>hQ _ a w ⟨σ,G,R,Ext.refl _ _ _,hm,h⟩
theorem a1D.step {ss:a1C} {h':Option (List Obj)} (hw:a2l ops.toList σ o=some true) (hs:a0f P σ o ss h') (hlen:m<=(σ.upd ss h').heap.length) (h:a1D P m ops l Q (σ.upd ss h')):a1D P m ops (o::l) Q σ:=by
 intro r n G a w Q' hm R hQ;unfold wpListIn;rw [if_pos (a2m hw R)];refine hs r n m G a w Q' _ hm R fun G' a' w' R' hE => ?_;exact h r n G' a' w' Q' (by rw [<-R'.h.nh];exact hlen) R' (fun e a'' w'' hp=>hQ _ _ _ (hp.ext hE))
theorem a1D.skip {d:Nat} (hw:a2l ops.toList σ o=some false) (hd:o.dst=some d) (hlt:d<σ.n) (hb:(σ.get d).isBox=false) (h:a1D P m ops l Q (σ.upd [(d,.tuple [])] none)):a1D P m ops (o::l) Q σ:=by
 intro r n G a w Q' hm R hQ;unfold wpListIn;rw [a2m hw R,if_neg (by simp)];refine ⟨fun _ _=>trivial,?_⟩;rw [hd];exact h r n G _ w Q' hm (R.put (.tuple _ _ #[] rfl (fun i hi=>by simp at hi) (fun c hc=>by simp at hc)) (fun r off e=>by cases e) hb hlt) hQ
theorem a1D.skip0 (hw:a2l ops.toList σ o=some false) (hd:o.dst=none) (h:a1D P m ops l Q σ):a1D P m ops (o::l) Q σ:=by
 intro r n G a w Q' hm R hQ;unfold wpListIn;rw [a2m hw R,if_neg (by simp)];refine ⟨fun _ _=>trivial,?_⟩;rw [hd];exact h r n G _ w Q' hm R hQ
theorem AWp.region {id:Nat} (h:a1D P m ops ops.toList Q σ):AWp P m (.region id ops false) Q σ :=
 fun r n G a w hm R=>wpIn_region_list (h r n G a w _ hm R (fun _ _ _ hp=>hp))
end
theorem b1Z {A:Ar} {T:a0i} {an:Ann} {n:Nat} {g:Nat->AV} {H H':List Obj} {o:Oper} {ss:a1C} (h:a0E A T an n g H o=some (ss,some H')):H.length<=H'.length:=by
 have hput : ∀ {dst:Option Tmp} {v:AV},Am.put n g dst v≠some (ss,some H'):=by
  intro dst v e;have:=(a0G e).1;cases this
 have hputO : ∀ {dst:Option Tmp} {v:Option AV},a5i n g dst v≠some (ss,some H'):=by
  intro dst v e;obtain ⟨x,_,e⟩:=a1o e;exact hput e
 have hmap : ∀ {dst:Option Tmp} {v:AV} {q:a1C×Option (List Obj)->a1C},Option.map (fun p=>(q p,p.2)) (Am.put n g dst v)≠some (ss,some H'):=by
  intro dst v q e;simp only [Option.map_eq_some_iff] at e;obtain ⟨⟨s1,h1⟩,e1,e2⟩:=e;have:=(a0G e1).1;simp at e2;rw [this] at e2;exact absurd e2.2 (by simp)
 have hmap2 : ∀ {dst:Option Tmp} {v:AV} {q:a1C×Option (List Obj)->a1C} {H1:List Obj},H1.length=H.length->Option.map (fun p=>(q p,some H1)) (Am.put n g dst v)=some (ss,some H')->H.length<=H'.length:=by
  intro dst v q H1 hl e;simp only [Option.map_eq_some_iff] at e;obtain ⟨⟨s1,h1⟩,e1,e2⟩:=e;simp at e2;rw [<-e2.2,hl];exact Nat.le_refl _
 cases hop:o.op <;> simp only [a0E,hop,b0i] at h
 all_goals (repeat' split at h)
 all_goals first
  | (cases h;done)
  | (exact absurd h hput)
  | (exact absurd h hputO)
  | (exact absurd h hmap)
  | (exact hmap2 (by simp) h)
  | (simp at h;done)
  | (simp at h;rw [<-h.2];simp;done)
  | (simp at h;obtain ⟨_,_,_,rfl⟩:=h;simp;done)
theorem b3x {A:Ar} {T:a0i} {an:Ann} {n:Nat} {g:Nat->AV} {H H':List Obj} {o:Oper} {ss:a1C} (h:a6T A T an n g H o=some (some (ss,some H'))):H.length<=H'.length:=by
 unfold a6T at h;split at h
 ·repeat' split at h
  all_goals first
   | (cases h;done)
   | (simp only [zp3] at h;exact absurd (a0G h).1 (by simp))
   | (simp at h;done)
 ·repeat' split at h
  all_goals first
   | (cases h;done)
   | (simp only [zp3] at h;exact absurd (a0G h).1 (by simp))
   | (simp at h;done)
 ·repeat' split at h
  all_goals first
   | (cases h;done)
   | (simp only [zp3] at h;exact absurd (a0G h).1 (by simp))
   | (simp at h;done)
 ·repeat' split at h
  all_goals first
   | (cases h;done)
   | (simp only [zp3] at h;exact absurd (a0G h).1 (by simp))
   | (simp at h;done)
 ·repeat' split at h
  all_goals first
   | (cases h;done)
   | (simp at h;done)
   | (simp only [zp3,Option.map_eq_some_iff] at h
      obtain ⟨p,_,hp⟩:=h;simp only [Prod.mk.injEq,zp3] at hp;rw [<-hp.2];simp)
 ·repeat' split at h
  all_goals first
   | (cases h;done)
   | (simp only [zp3] at h;exact absurd (a0G h).1 (by simp))
   | (simp at h;done)
 ·repeat' split at h
  all_goals first
   | (cases h;done)
   | (simp at h;done)
   | (simp only [zp3,Option.map_eq_some_iff] at h
      obtain ⟨p,_,hp⟩:=h;simp only [Prod.mk.injEq,zp3] at hp;rw [<-hp.2];simp)
 cases h
theorem a6D {A:Ar} {T:a0i} {an:Ann} {n:Nat} {g:Nat->AV} {H H':List Obj} {o:Oper} {ss:a1C} (h:a2s A T an n g H o=some (ss,some H')):H.length<=H'.length:=by
 unfold a2s at h;split at h
 ·rename_i r hr;subst h;exact (a9t hr).elim
 split at h
 ·rename_i r hr;subst h;exact b3v hr
 split at h
 ·rename_i r hr;subst h;exact b3u hr
 split at h
 ·rename_i r hr;subst h;exact b3x hr
 split at h
 ·rename_i r hr;subst h;exact b3s hr
 split at h
 ·rename_i r hr;subst h;exact b3o hr
 split at h
 ·rename_i r hr;subst h;exact b3e hr
 split at h
 ·rename_i r hr;subst h;exact b3b hr
 exact b1Z h
end Go.Am
