import Derived.Test.YtlljehkmemajkaaAmMor
import Derived.TacticsIn
import Derived.RangeFuncLeaves
set_option linter.unusedSimpArgs false
set_option linter.unusedSectionVars false
set_option linter.unusedVariables false
namespace Go.Am
open Go
theorem b1S {x:AV} (h:x.lent=true):x.free=true/\x.isCell=true/\x.copy=x:=by
 cases x <;> simp [AV.lent] at h <;> exact ⟨rfl,rfl,rfl⟩
theorem Rel.groJag {G:Gh} {σ:St} {a:Act} {w:World} (R:Rel G σ a w) {i k:Nat} {l:List D} (hi:σ.heap[i]?=some (.gro 1 l)) (hl : ∀ x∈l,∃ l',x = .list k l')
  (hent : ∀ vs e,0<G.β (.o (i+1))->w.heap[G.β (.o i)]?=some (.cells vs e (0,0)) -> ∀ (j:Nat) (hj:j<l.length),RepV G w (.oc i j) (a3p k none j l[j]) (vs.getD j Go.undef)) :
  Rel G { σ with heap:=σ.heap.set i (.jag k l none) } a w:=by
 refine ⟨⟨R.h.sane,by simpa using R.h.nh,fun x ob hob => ?_,R.h.kept,R.h.disj⟩,R.size,R.slots,R.places,R.df⟩;by_cases hx:i=x
 ·subst hx;simp only at hob;rw [List.getElem?_set_self (zp2.1 hi).1] at hob;injection hob with hob;subst hob
  obtain ⟨g0,g1,g2,g3,g4⟩:=R.h.objs i _ hi;refine ⟨g0,g1,g2,hl,fun p e=>(by cases e),fun hc => ?_⟩;obtain ⟨vs,e,h1,h2,h3,_,_⟩:=g4 hc;exact ⟨vs,e,h1,h2,by omega,hent vs e hc h2⟩
 rw [List.getElem?_set_ne hx] at hob;exact R.h.objs x ob hob
theorem a3N {G:Gh} {σ:St} {a:Act} {w:World} (R:Rel G σ a w) {i k:Nat} {l l':List D} {o o':Option (Int×AV)} {cur row:Array Value} {e:TypeId} (hi:σ.heap[i]?=some (.jag k l o)) (hne:0<l.length)
  (hw:w.heap[G.β (.o i)]?=some (.cells cur e (0,0))) (hll:l'.length=l.length) (hu : ∀ x∈l',∃ y,x = .list k y) (ho : ∀ p,o'=some p->p.2.isCell=true/\p.2.free=true) (hrs:row.size=cur.size)
  (hh : ∀ (j:Nat) (hj:j<l'.length),RepV G w (.oc i j) (a3p k o' j l'[j]) (row.getD j Go.undef)) :
  Rel G (σ.upd [] (some (σ.heap.set i (.jag k l' o')))) a (w.setRow (G.β (.o i)) row) /\ ∀ m,Ext m G w G (w.setRow (G.β (.o i)) row):=by
 obtain ⟨g0,g1,g2,g3,go,g4⟩:=R.h.objs i _ hi;obtain ⟨vs0,e0,hO,hw0,hsz0,_⟩:=g4 (by omega);rw [hw] at hw0;simp at hw0;obtain ⟨rfl,rfl⟩:=hw0;have hpr:=a1Y (w:=w) hO row;have hil:i<σ.heap.length:=(zp2.1 hi).1;refine ⟨⟨⟨R.h.sane,by simpa [St.upd] using R.h.nh,fun i' ob hob => ?_,a1Z R.h.kept (fun j=>(R.h.disj _ _ _ hO).2 j (Nat.zero_le _)) hO _,fun b ℓ f h => ?_⟩,by simpa [St.upd] using R.size,?_,?_,?_⟩,fun m=>Ext.setRow hO _⟩
 ·simp only [St.upd,Option.getD_some] at hob;by_cases hii:i=i'
  ·subst hii;rw [List.getElem?_set_self hil] at hob;injection hob with hob;subst hob
   refine ⟨g0,by rw [hll];exact g1,by rw [hll];exact g2,hu,ho,fun _=>⟨row,_,hO,setRow_heap _ _ _ _ _ _ hw,by rw [hrs];exact hsz0,fun j hj => ?_⟩⟩;obtain ⟨y,hy⟩:=hu _ (zp6 hj);exact (hh j hj).pres R.h.sane hpr (by simp) (fun r off e=>absurd e (AV.not_place (a1V hy ho).1 r off)) (fun t e=>by cases e)
  rw [List.getElem?_set_ne hii] at hob;exact (R.h.objs i' ob hob).pres R.h.sane (by rw [<-R.h.nh];exact (zp2.1 hob).1) hpr (by simp;exact fun e=>hii e.symm) (by simp)
 ·have:=R.h.disj b ℓ f h;exact ⟨by simpa using this.1,this.2⟩
 ·intro t;exact (R.slots t).pres R.h.sane hpr (by simp) (fun _ _ _=>rfl) (fun t' e' _=>⟨rfl,fun j=>by simp⟩)
 ·intro t r'' off' ht;exact R.places t r'' off' ht
 refine ⟨R.df.1,fun x hx => ?_⟩;obtain ⟨r0,h1,h2,h3⟩:=R.df.2 x hx;exact ⟨r0,h1,h2,by rw [setRow_other _ _ _ _ (by rintro rfl;rw [hO] at h2;cases h2)];exact h3⟩
theorem a9I {k:Nat} {o:Option (Int×AV)} {i:Int} (h:a7I Ar.std i o=true) {j:Nat} (hj:j≠i.toNat) (x:D):a3p k o j x=frA k x:=by
 unfold a3p;split
 ·rename_i t x;have:i=t:=by simpa [a7I,Ar.std] using h
  subst this;rw [if_neg hj]
 rfl
section
variable {P:Program} {T:a0j} (hT:TOk P T) {σ:St} {g:Nat->AV} {o:Oper} {ss:a1f} {h':Option (List Obj)} {H:List Obj} {an:Ann}
 (hg:Less g σ) (hgd : ∀ d,o.dst=some d->g d=σ.get d)
include hT hg hgd
theorem b7t {t:TypeId} {s:Nat} (hop:o.op = .call { callee := .builtin .len,args := #[.tmp s],argTypes := #[t] }) {a0 k:Nat} {l:List D} {w0:Option (Int×AV)} (hs:g s = .gref a0 1) (hHi:σ.heap[a0]?=some (.jag k l w0))
  {sz e:Nat} {z:List AV} (ht:T t=some { size:=sz,u := .slice e,zero:=z }) (h:put σ.n g o.dst (.d (.int .i64 (Ar.std.len l)))=some (ss,h')):a0f P σ o ss h':=by
 refine a0d hgd h (by simp [hop]) (AV.free_place rfl) ?_;intro G a w R;obtain ⟨p,hv,_,_,_⟩:=a1L hg R hs;obtain ⟨_,q1,_⟩:=R.h.objs a0 _ hHi;refine ⟨.int .i64 (Ar.std.len l),?_,fun d => .d _ _ _ (.int _ _)⟩;simp [execOp,hop,resolve,invoke,Go.builtin,Builtin.len_,Builtin.lenOf,hv,goInt,Go.underlying,hT.slice ht,Ar.std,q1]
theorem b4c {t:TypeId} {s:Nat} {i:Operand} (hop:o.op = .indexAddr t (.tmp s) i) {a0 k:Nat} {l:List D} {w0:Option (Int×AV)} (hs:g s = .gref a0 1) (hHi:σ.heap[a0]?=some (.jag k l w0))
  {sz e:Nat} {zz:List AV} (ht:T t=some { size:=sz,u := .slice e,zero:=zz }) {td:TD} (hte:T e=some td) {kz:IntKind} {z:Int} (hi:opv T g 0 i=some (.d (.int kz z))) (hk:td.size=1) (hz0:0<=z) (hz1:z<(l.length:Int))
  (h:put σ.n g o.dst (.eptr a0 1 z 0)=some (ss,h')):a0f P σ o ss h':=by
 refine a0d hgd h (by simp [hop]) (AV.free_place rfl) ?_;intro G a w R;have h1:=(a0P hg R hi .no).1;cases h1 with | d _ _ _ h1 =>
 generalize hei:a.eval i=vi at h1;cases h1;obtain ⟨p,hv,hnh,hle,hp⟩:=a1L hg R hs;obtain ⟨_,q1,q2,_⟩:=R.h.objs a0 _ hHi;obtain rfl:=hp (by omega);have hzz:z<((G.β (.o (a0+2)):Nat):Int):=by omega
 refine ⟨.pointer (some ⟨G.β (.o a0),0+z.toNat*td.size,none⟩),?_,fun d => ?_⟩
 ·have hmx : ¬ ((G.β (.o (a0+2)):Nat):Int)<=z:=by omega
  simp [execOp,hop,hv,hei,Instr.indexAt,asIntOf,Go.underlying,hT.slice ht,hz0,hzz,hmx,hT.size hte,Addr.add_none]
 rw [hk];have:=RepV.eptr (G:=G) (w:=w) (.s d) a0 1 z 0 (by omega) hz0;simpa using this
theorem b5R {t:TypeId} {s:Nat} (hop:o.op = .load t (.tmp s)) {a0 k:Nat} {l:List D} {i z:Int} {x:AV} (hs:g s = .eptr a0 1 i 0) (hHi:σ.heap[a0]?=some (.jag k l (some (z,x)))) {td:TD} (ht:T t=some td)
  (hsz:td.size=1) (hag:td.isAgg=false) (hx:x.lent=true) (hiz:i=z) (hil:i<(l.length:Int)) (hp:put σ.n g o.dst x=some (ss,h')):a0f P σ o ss h':=by
 subst hiz;obtain ⟨hfree,hcell,hcopy⟩:=b1S hx;refine a0d hgd hp (by simp [hop]) (AV.free_place (AV.free_isLocal hfree)) ?_;intro G a w R;obtain ⟨hv,hnh,hi⟩:=eptr_val hg R (x := .tmp s) hs;obtain ⟨g0,g1,g2,g3,go,g4⟩:=R.h.objs a0 _ hHi;have hlt:i.toNat<l.length:=by omega
 obtain ⟨vs,e,hO,hw,hsv,hent⟩:=g4 (by omega);have he:=hent i.toNat hlt;have e5:a3p k (some (i,x)) i.toNat l[i.toNat]=x:=by simp [a3p]
 rw [e5] at he;obtain ⟨v,hr,_,hrep⟩:=a1v hT ht (G:=G) (w:=w) (b:=G.β (.o a0)) (o:=i.toNat*1) (off:=0) (cs:=[x]) (vs:=fun q=>vs.getD (i.toNat*1+q) Go.undef)
  (fun q hq=>by simp at hq;subst hq;exact a0S hw (by omega)) (fun q hq=>by simp at hq;subst hq;exact ⟨_,by simpa using he⟩) (fun c hc=>by simp at hc;subst hc;exact hcell)
  (av:=x.copy) (b0r hsz rfl hag)
 rw [hcopy] at hrep;simp only [Nat.mul_one,Nat.add_zero] at hr hv;exact ⟨v,by simp [execOp,hop,hv,Instr.loadAt,Instr.sureAddr,hr],fun d=>hrep _⟩
theorem b1T {t:TypeId} {s q:Nat} (hop:o.op = .store t (.tmp s) (.tmp q)) {a0 k:Nat} {l y:List D} {i:Int} {w0:Option (Int×AV)} (hs:g s = .eptr a0 1 i 0) (hq:g q = .fresh k y) (hHi:σ.heap[a0]?=some (.jag k l w0)) {td:TD} (ht:T t=some td)
  (hsz:td.size=1) (hw0:a7I Ar.std i w0=true) (hil:i<(l.length:Int)) (hdst:o.dst=none):a0f P σ o [(q,.undef)] (some (σ.heap.set a0 (.jag k (l.set i.toNat (.list k y)) none))):=by
 have hnd : ∀ c,o.op ≠ .defer c:=by simp [hop]
 intro r n m G a w Q next hm R hn
 obtain ⟨hpt,hnh,hi⟩:=eptr_val hg R (x := .tmp s) hs;have hsg:σ.get q = .fresh k y:=(hg.eq hq (by simp));obtain ⟨R1,hrep1⟩:=R.giveF hsg (.oc a0 i.toNat) (by simp [Loc.root]);obtain ⟨g0,g1,g2,g3,go,g4⟩:=R1.h.objs a0 _ hHi;have hlt:i.toNat<l.length:=by omega
 obtain ⟨cur,e,hO,hw,hsv,hent⟩:=g4 (by omega);have hval:a.eval (.tmp q)=a.tmps.getD q Go.undef:=rfl;generalize hvv:a.tmps.getD q Go.undef=vv at hrep1;have hcells:vv.cells = #[vv]:=by
  cases hrep1 with | fresh _ _ _ _ hr =>
  obtain ⟨p,cap,rfl,_⟩:=hr;rfl
 have hone : ∀ x∈vv.cells.toList,x.oneCell'=true:=by
  rw [hcells];simp;exact hrep1.oneCell rfl
 have hrun:=a0K hT ht hw (off:=i.toNat*1+0) (v:=vv) (by rw [hcells];simp [hsz]) (by omega) hone;have hrs:(i.toNat*1+0)+[vv].length<=cur.size:=by simp;omega
 obtain ⟨hcore,hext⟩:=a3N R1 (l':=l.set i.toNat (.list k y)) (o':=none) (row:=rowOf cur (i.toNat*1+0) [vv]) hHi (by omega) hw (by simp) (fun x hx=>by
   rcases List.mem_or_eq_of_mem_set hx with hx | rfl
   ·exact g3 x hx
   exact ⟨y,rfl⟩) (fun p e=>by cases e) (a0I hrs) (fun j hj=>by
  rw [a0R hrs];simp only [List.length_singleton];by_cases hji:j=i.toNat
  ·subst hji;rw [if_neg (by omega),if_pos (by omega),List.getElem_set_self];simp only [a3p,frA,if_true];rw [show i.toNat-(i.toNat*1+0)=0 by omega];exact hrep1
  have hj':j<l.length:=by simpa using hj
  have h5:=hent j hj';rw [a9I hw0 hji] at h5;rw [List.getElem_set_ne (Ne.symm hji)];have:(if j<i.toNat*1+0 then cur.getD j Go.undef else if j<i.toNat*1+0+1 then [vv].getD (j-(i.toNat*1+0)) Go.undef else cur.getD j Go.undef)=cur.getD j Go.undef:=by
   split
   ·rfl
   rw [if_neg (by omega)]
  rw [this];exact h5)
 have hβ:(G.move (.s q) (.oc a0 i.toNat)).β=G.β:=rfl;rw [hβ] at hrun hcore hO hext;rw [hcells] at hrun;refine a1k hnd (w':=w.setRow (G.β (.o a0)) (rowOf cur (i.toNat*1+0) [vv])) (by simp only [Nat.mul_one,Nat.add_zero] at hrun hpt ⊢;simp [execOp,hop,hpt,Instr.storeAt,Instr.sureAddr,hval,hvv,hrun]) (hn _ _ _ ?_ ((Ext.move m G w _ _).trans (hext m)));rw [hdst];have hcore':=hcore;simp only [show (σ.upd [(q,AV.undef)] none).heap=σ.heap from rfl] at hcore';rw [a6H] at hcore';simpa [Act.put] using hcore'
theorem a8a {t:TypeId} {s q:Nat} (hop:o.op = .store t (.tmp s) (.tmp q)) {a0 k:Nat} {l:List D} {i:Int} {w0:Option (Int×AV)} {x:AV} (hs:g s = .eptr a0 1 i 0) (hq:g q=x) (hx:x.lent=true) (hHi:σ.heap[a0]?=some (.jag k l w0)) {td:TD} (ht:T t=some td)
  (hsz:td.size=1) (hw0:a7I Ar.std i w0=true) (hil:i<(l.length:Int)) (hdst:o.dst=none):a0f P σ o [] (some (σ.heap.set a0 (.jag k l (some (i,x))))):=by
 have hnd : ∀ c,o.op ≠ .defer c:=by simp [hop]
 obtain ⟨hfree,hcell,hcopy⟩:=b1S hx;intro r n m G a w Q next hm R hn
 obtain ⟨hpt,hnh,hi⟩:=eptr_val hg R (x := .tmp s) hs;obtain ⟨g0,g1,g2,g3,go,g4⟩:=R.h.objs a0 _ hHi;have hlt:i.toNat<l.length:=by omega
 obtain ⟨cur,e,hO,hw,hsv,hent⟩:=g4 (by omega);have hval:a.eval (.tmp q)=a.tmps.getD q Go.undef:=rfl;have hrep1:=hg.rep R q;rw [hq] at hrep1;generalize hvv:a.tmps.getD q Go.undef=vv at hrep1;have hcells:vv.cells = #[vv]:=by
  cases hrep1 <;> first | rfl | (simp [AV.lent] at hx)
 have hone : ∀ x∈vv.cells.toList,x.oneCell'=true:=by
  rw [hcells];simp;exact hrep1.oneCell hcell
 have hrun:=a0K hT ht hw (off:=i.toNat*1+0) (v:=vv) (by rw [hcells];simp [hsz]) (by omega) hone;have hrs:(i.toNat*1+0)+[vv].length<=cur.size:=by simp;omega
 obtain ⟨hcore,hext⟩:=a3N R (l':=l) (o':=some (i,x)) (row:=rowOf cur (i.toNat*1+0) [vv]) hHi (by omega) hw rfl g3 (fun p e=>by cases e;exact ⟨hcell,hfree⟩) (a0I hrs) (fun j hj=>by
  rw [a0R hrs];simp only [List.length_singleton];by_cases hji:j=i.toNat
  ·subst hji;rw [if_neg (by omega),if_pos (by omega)];simp only [a3p,if_true];rw [show i.toNat-(i.toNat*1+0)=0 by omega];exact hrep1.anywhere hfree _
  have h5:=hent j hj;rw [a9I hw0 hji] at h5;have e6:a3p k (some (i,x)) j l[j]=frA k l[j]:=by simp only [a3p,if_neg hji]
  rw [e6];have:(if j<i.toNat*1+0 then cur.getD j Go.undef else if j<i.toNat*1+0+1 then [vv].getD (j-(i.toNat*1+0)) Go.undef else cur.getD j Go.undef)=cur.getD j Go.undef:=by
   split
   ·rfl
   rw [if_neg (by omega)]
  rw [this];exact h5)
 rw [hcells] at hrun;refine a1k hnd (w':=w.setRow (G.β (.o a0)) (rowOf cur (i.toNat*1+0) [vv])) (by simp only [Nat.mul_one,Nat.add_zero] at hrun hpt ⊢;simp [execOp,hop,hpt,Instr.storeAt,Instr.sureAddr,hval,hvv,hrun]) (hn _ _ _ ?_ (hext m));rw [hdst];simpa [Act.put] using hcore
theorem b5S {t:TypeId} {ln cp:Operand} (hop:o.op = .makeSlice t ln cp) {d:Nat} (hdst:o.dst=some d) {sz e:Nat} {zz:List AV} (ht:T t=some { size:=sz,u := .slice e,zero:=zz }) {td:TD} (hte:T e=some td) {kz kz':IntKind} {z:Int}
  (hln:opD T g 0 ln=some (.int kz z)) (hcp:opD T g 0 cp=some (.int kz' z)) {k:Nat} (hzr:td.zero=[.own k []]) (hag:td.isAgg=false) (hlt:d<σ.n) (hb:(g d).isBox=false) (hsz:td.size=1) (hz0:0<=z) (hfit:z<4294967296) :
  a0f P σ o [(d,.gref σ.heap.length 1)] (some (σ.heap++[.jag k (Ar.std.rep z (.list k [])) none,.dead,.dead])):=by
 have hnd : ∀ c,o.op ≠ .defer c:=by simp [hop]
 intro r n m G a w Q next hm R hn
 have h1:=a0w hg R hln;have h2:=a0w hg R hcp;obtain ⟨ie,de,hie,hde,hisz,hbytes,_,z0,hz0',hz0s,hzl,hzc⟩:=hT.info hte;have hzv:z0.cells.getD 0 Go.undef = .slice none 0 0:=by
  have h:=hzc 0 (by rw [hzr];simp);have e0:td.zero[0]'(by rw [hzr];simp) = .own k []:=by simp [hzr]
  rw [e0] at h;generalize z0.cells.getD 0 Go.undef=v at h;revert h;generalize hA:AV.own k []=A0;intro h;unfold zeroCell at h;split at h
  all_goals first
   | rfl
   | (cases hA;done)
   | (cases h;done)
 obtain ⟨N,rfl⟩:=zp9 hz0;have e1:a.eval ln = .int kz N:=by generalize hv:a.eval ln=v at h1;cases h1;rfl
 have e2:a.eval cp = .int kz' N:=by generalize hv:a.eval cp=v at h2;cases h2;rfl
 have hmk:=run_make (P:=P) w t e ie z0 (hT.slice ht) hie hz0' kz kz' N N (by omega) (by omega) (by
  have:ie.bytes*N<=4096*4294967296:=Nat.mul_le_mul hbytes (by omega);have h3:((ie.bytes*N:Nat):Int)<=281474976710656:=by omega
  rwa [Int.natCast_mul] at h3) (by omega)
 simp only [Int.toNat_natCast,hisz] at hmk;rw [hsz,Nat.mul_one] at hmk;have hu:a0k 1 (List.replicate N (D.list k [])):=fun x hx=>by rw [(List.mem_replicate.1 hx).2];rfl
 have hfl:=a0b hu;have hget : ∀ q,q<N->(madeCells z0.cells N).getD q Go.undef = .slice none 0 0:=by
  intro q hq;rw [<-hzv];simp [madeCells,hz0s,hsz,hq,Array.getD,Nat.mod_one]
 have hrep0:Ar.std.rep (N:Int) (D.list k [])=List.replicate N (D.list k []):=by simp [Ar.std]
 rw [hrep0] at hn;have hrun:(execOp a.eval o).run P w = .ok (.value (.slice (some ⟨w.heap.size,0,none⟩) N N)) (w.alloc (.cells (madeCells z0.cells N) e)):=by simp [execOp,hop,e1,e2,hmk]
 have each : ∀ (q:Nat) (hq:q<(D.flat (List.replicate N (D.list k []))).length),RepD G.K (D.flat (List.replicate N (D.list k [])))[q] ((madeCells z0.cells N).getD q Go.undef)/\((madeCells z0.cells N).getD q Go.undef).oneCell'=true:=by
  intro q hq;have hq':q<N:=by simpa [hfl] using hq
  have e3:(D.flat (List.replicate N (D.list k [])))[q]=D.list k []:=by
   have hfg:=a0C hu (i:=q) (y:=D.list k []) (by rw [List.getElem?_replicate,if_pos hq']) 0 (by omega);simp only [Nat.mul_one,Nat.add_zero] at hfg;rw [zp1 hq] at hfg;simpa [D.cells] using hfg
  rw [e3,hget q hq'];exact ⟨.nil k,rfl⟩
 obtain ⟨R2,hext,hrep⟩:=R.toGro (w':=w.alloc (.cells (madeCells z0.cells N) e)) (k:=1) (l:=List.replicate N (D.list k [])) (cap:=N) (b:=w.heap.size) (p:=some ⟨w.heap.size,0,none⟩) (fun _=>rfl) hu (by simp) (by simp)
  ⟨rfl,rfl,fun ad _=>frozen?_alloc_new _ _ (fun _ _ _ e=>by cases e;rfl) ad,rfl,Nat.le_refl _⟩ (fun b' hb' _=>a0p hb') (fun _ =>
   ⟨by simp,.inl (Nat.le_refl _),_,e,heap_alloc_new,by rw [size_madeCells];omega,fun q hq=>(each q hq).2,fun q hq=>(each q hq).1⟩)
 have R3:=R2.groJag (i:=σ.heap.length) (k:=k) (l:=List.replicate N (D.list k [])) (by simp) (fun x hx=>⟨[],(List.mem_replicate.1 hx).2⟩) (fun vs e' hc hw j hj=>by
  have hb:(G.gro σ.heap.length w.heap.size N (List.replicate N (D.list k [])).length).β (.o σ.heap.length)=w.heap.size:=by simp [Gh.gro]
  rw [hb,heap_alloc_new] at hw;simp at hw;obtain ⟨rfl,rfl⟩:=hw;have hj':j<N:=by simpa using hj
  rw [hget j hj'];simp only [a3p,frA,List.getElem_replicate,if_true];exact .fresh _ _ _ _ ⟨none,0,rfl,fun x hx=>by simp at hx,Nat.le_refl _,fun h=>by omega⟩)
 have eset:(σ.heap++[Obj.gro 1 (List.replicate N (D.list k [])),.dead,.dead]).set σ.heap.length (.jag k (List.replicate N (D.list k [])) none)=σ.heap++[.jag k (List.replicate N (D.list k [])) none,.dead,.dead]:=by
  rw [List.set_append_right _ _ (Nat.le_refl _)];simp
 simp only [eset] at R3;refine a0u hnd hrun (hn _ _ _ ?_ (hext m hm));rw [hdst];simp only [List.length_replicate] at R3 hrep;have:=R3.put (d:=d) (hrep _) (fun r off e=>by cases e) (by show (σ.get d).isBox=false;rw [<-hgd d hdst];exact hb) hlt;simpa [St.upd,a0r] using this
end
def b1U (σ:St) (x:Loc):Prop:=lets σ x \/ ∃ i j,x = .oc i j/\σ.heap[i]?=some .dead
def Gh.jag (G:Gh) (mv:Loc->Option Nat) (N b cap len:Nat):Gh where
 K:=G.K
 O:=fun x=>if 0<cap/\x=b then some (.o N,0) else match G.O x with
  | some (ℓ,f)=>match mv ℓ with | some j=>some (.oc N j,f) | none=>some (ℓ,f)
  | none=>none
 β:=fun r=>if r = .o N then b else if r = .o (N+1) then cap else if r = .o (N+2) then len else G.β r
 nh:=N+3
theorem Rel.toJag {G:Gh} {σ:St} {a:Act} {w w':World} (R:Rel G σ a w) (mv:Loc->Option Nat) {k:Nat} {l:List D} {cap b:Nat} {p:Option Addr} (hp:0<cap->p=some ⟨b,0,none⟩) (hu : ∀ x∈l,∃ y,x = .list k y) (hl:l.length<=cap)
  (hsz:w.heap.size<=w'.heap.size) (hio:w'.os=w.os/\w'.output=w.output/\(∀ a,a.block<w.heap.size->w'.frozen? a=w.frozen? a)/\w'.tape=w.tape/\w.drawn<=w'.drawn)
  (hoth : ∀ b',b'<w.heap.size->(0<cap->b'≠b)->w'.heap[b']?=w.heap[b']?) (hmv : ∀ ℓ j,mv ℓ=some j->b1U σ ℓ)
  (hb:0<cap->b<w'.heap.size/\(w.heap.size<=b \/ ∃ ℓ0,G.O b=some (ℓ0,0)/\mv ℓ0=none/\b1U σ ℓ0) /\ ∃ vs e,w'.heap[b]?=some (.cells vs e (0,0))/\cap<=vs.size /\
   ∀ (j:Nat) (hj:j<l.length),∃ ℓ y,l[j] = .list k y/\mv ℓ=some j/\a4i G w ℓ k y (vs.getD j Go.undef)) :
  Rel (G.jag mv σ.heap.length b cap l.length) { σ with heap:=σ.heap++[.jag k l none,.dead,.dead] } a w'/\(∀ m,m<=G.nh->Ext m G w (G.jag mv σ.heap.length b cap l.length) w') /\
   ∀ ℓ,RepV (G.jag mv σ.heap.length b cap l.length) w' ℓ (.gref σ.heap.length 1) (.slice p l.length cap):=by
 have hnh:=R.h.nh;generalize hN:σ.heap.length=N at hnh ⊢;let G':Gh:=G.jag mv N b cap l.length;show Rel G' _ a w'/\(∀ m,m<=G.nh->Ext m G w G' w') /\ ∀ ℓ,RepV G' w' ℓ _ _;have hb0:G'.β (.o N)=b:=by simp [G',Gh.jag]
 have hb1:G'.β (.o (N+1))=cap:=by simp [G',Gh.jag]
 have hb2:G'.β (.o (N+2))=l.length:=by simp [G',Gh.jag]
 have hβold : ∀ i,i<G.nh->G'.β (.o i)=G.β (.o i):=by
  intro i hi;simp only [G',Gh.jag,Root.o.injEq];rw [if_neg (by omega),if_neg (by omega),if_neg (by omega)]
 have hβs : ∀ t,G'.β (.s t)=G.β (.s t):=fun t=>by simp [G',Gh.jag]
 let S:Loc->Prop:=fun x=>mv x=none/\(0<cap -> ∀ f,G.O b≠some (x,f))

 have hOmv : ∀ b' ℓ f,G.O b'=some (ℓ,f)->(0<cap->b'≠b)->w'.heap[b']?=w.heap[b']? /\ ∀ j,mv ℓ=some j->G'.O b'=some (.oc N j,f):=by
  intro b' ℓ f h hne;refine ⟨hoth b' (R.h.disj b' ℓ f h).1 hne,fun j hj => ?_⟩;simp only [G',Gh.jag];rw [if_neg (by rintro ⟨hc,rfl⟩;exact hne hc rfl)];simp only [h,hj]
 have hOold : ∀ x b' f,S x->G.O b'=some (x,f)->G'.O b'=some (x,f)/\w'.heap[b']?=w.heap[b']?:=by
  intro x b' f hx h;have hne:0<cap->b'≠b:=by rintro hc rfl;exact hx.2 hc f h
  refine ⟨?_,hoth b' (R.h.disj b' x f h).1 hne⟩;simp only [G',Gh.jag];rw [if_neg (by rintro ⟨hc,rfl⟩;exact hne hc rfl)];simp only [h,hx.1]
 have hpr:Pres G G' w w' S:=⟨KLe.refl _,fun b' x f hx h=>hOold x b' f hx h,hβold,by rw [<-hnh];simp [G',Gh.jag]⟩;have hno:Pres G G' w w' (· = .no):=hpr.no R.h.sane;have own0 : ∀ x,¬ S x->b1U σ x:=by
  intro x hx;cases hm:mv x with
  | some j=>exact hmv x j hm
  | none =>
    rcases Nat.eq_zero_or_pos cap with hc | hc
    ·exact absurd ⟨hm,fun h=>by omega⟩ hx
    rcases (hb hc).2.1 with h | ⟨ℓ0,h,_,hl0⟩
    ·exact absurd ⟨hm,fun _ f hO=>by have:=(R.h.disj _ _ _ hO).1;omega⟩ hx
    have:x=ℓ0:=Classical.byContradiction fun hne=>hx ⟨hm,fun _ f hO=>by rw [h] at hO;simp at hO;exact hne hO.1.symm⟩;subst this;exact hl0
 have hS : ∀ x,¬ b1U σ x->S x:=fun x hx=>Classical.byContradiction fun h=>hx (own0 x h);have hfreeV : ∀ {ℓ:Loc} {c:AV} {v:Value},RepV G w ℓ c v->c.free=true -> ∀ ℓ',RepV G' w' ℓ' c v:=by
  intro ℓ c v h hf ℓ';refine ((h.anywhere hf .no).pres R.h.sane hno rfl (fun r off e => ?_) (fun t e=>by cases e)).anywhere hf ℓ';subst e;simp [AV.free] at hf
 have hslot : ∀ t,RepV G' w' (.s t) (σ.get t) (a.tmps.getD t Go.undef):=by
  intro t;by_cases h:S (.s t)
  ·refine (R.slots t).pres R.h.sane hpr h (fun r off e=>hβs r) (fun t' e hbx=>⟨hβs t',fun j=>hS _ ?_⟩);rintro (h | ⟨i,j',h,_⟩)
   ·simp [lets] at h
   cases h
  rcases own0 _ h with h | ⟨i,j,h,_⟩
  ·exact hfreeV (R.slots t) h _
  cases h
 have hobj : ∀ i ob,σ.heap[i]?=some ob->a1H G' w' i ob:=by
  intro i ob hob;have hi:i<G.nh:=by rw [<-hnh,<-hN];exact (zp2.1 hob).1
  by_cases hd:ob = .dead
  ·subst hd;trivial

  have oc0 : ∀ j,¬ S (.oc i j)->(∃ cs,ob = .cells cs /\ ∀ c,cs[j]?=some c->c.free=true) \/ ∃ k l t x,ob = .jag k l (some (t,x))/\j=t.toNat:=by
   intro j hj;rcases own0 _ hj with h | ⟨i',j',h,h'⟩
   ·rcases h with ⟨cs,hcs,hcj⟩ | ⟨k1,l1,t1,x1,hcs,hjt⟩
    ·rw [hob] at hcs;cases hcs;exact .inl ⟨cs,rfl,hcj⟩
    rw [hob] at hcs;cases hcs;exact .inr ⟨k1,l1,t1,x1,rfl,hjt⟩
   cases h;rw [hob] at h';cases h';exact absurd rfl hd
  by_cases h:S (.o i)
  ·by_cases h2 : ∀ j,S (.oc i j)
   ·exact (R.h.objs i ob hob).pres R.h.sane hi hpr h h2
   have h2' : ∃ j,¬ S (.oc i j):=Classical.byContradiction fun hh=>h2 fun j=>Classical.byContradiction fun hj=>hh ⟨j,hj⟩;obtain ⟨j0,hj0⟩:=h2';rcases oc0 j0 hj0 with ⟨cs,rfl,hcj⟩ | ⟨k1,l1,t1,x1,rfl,hjt⟩
   ·obtain ⟨vs,e,h1,h3,h4,h5,h6⟩:=R.h.objs i _ hob;obtain ⟨h7,h8⟩:=hOold _ _ _ h h1;rw [<-hβold i hi] at h3 h7 h8;refine ⟨vs,e,h7,h8.trans h3,h4,fun j hj => ?_,h6⟩;by_cases hs:S (.oc i j)
    ·exact (h5 j hj).pres R.h.sane hpr hs (fun r off e=>absurd e (AV.not_place (AV.isLocal_of_isCell (h6 _ (zp6 hj))) r off)) (fun t e=>by cases e)
    rcases oc0 j hs with ⟨cs',hcs',hcj'⟩ | ⟨_,_,_,_,hcs',_⟩
    ·cases hcs';exact hfreeV (h5 j hj) (hcj' _ (zp1 hj)) _
    cases hcs'
   obtain ⟨g0,g1,g2,g3,go,g4⟩:=R.h.objs i _ hob;have hb1:=hβold (i+1) (by omega);have hb2:=hβold (i+2) g0;refine ⟨by simp only [G',Gh.jag];omega,by rw [hb2];exact g1,by rw [hb1];exact g2,g3,go,fun hcc => ?_⟩;rw [hb1] at hcc;obtain ⟨vs,e,h1,h3,h4,h5⟩:=g4 hcc;obtain ⟨h7,h8⟩:=hOold _ _ _ h h1;rw [<-hβold i hi] at h3 h7 h8;refine ⟨vs,e,h7,h8.trans h3,by rw [hb1];exact h4,fun j hj => ?_⟩;obtain ⟨l',hx⟩:=g3 _ (zp6 hj);by_cases hs:S (.oc i j)
   ·exact (h5 j hj).pres R.h.sane hpr hs (fun r off e=>absurd e (AV.not_place (a1V hx go).1 r off)) (fun t e=>by cases e)
   rcases oc0 j hs with ⟨cs',hcs',hcj'⟩ | ⟨k2,l2,t2,x2,hcs',hjt'⟩
   ·cases hcs'
   injection hcs' with e1 e2 e3;injection e3 with e3;injection e3 with e3 e4
   subst e3 e4 hjt';have:=h5 _ hj;have e5:a3p k1 (some (t1,x1)) t1.toNat l1[t1.toNat]=x1:=by simp [a3p]
   rw [e5] at this ⊢;exact hfreeV this (go _ rfl).2 _
  rcases own0 _ h with h | ⟨i',j',h,_⟩
  ·simp only [lets] at h;rw [hob] at h;injection h with h;exact absurd h hd
  cases h
 have hdisj : ∀ b' ℓ f,G'.O b'=some (ℓ,f)->b'<w'.heap.size/\(∀ j,f<=j->G'.K ⟨b',j,none⟩=none)/\ℓ.root ≠ .no:=by
  intro b' ℓ f h;simp only [G',Gh.jag] at h;split at h
  ·rename_i hc;obtain ⟨hc,rfl⟩:=hc;obtain ⟨h1,h2,_⟩:=hb hc;cases h;refine ⟨h1,fun j _ => ?_,by simp [Loc.root]⟩;show G.K _=none;rcases h2 with h2 | ⟨ℓ0,h2,_⟩
   ·cases hK:G.K ⟨b',j,none⟩ with
    | none=>rfl
    | some v=>have:=World.block_lt_of_cell? w _ (R.h.kept _ _ hK);simp at this;omega
   exact (R.h.disj _ _ _ h2).2 j (Nat.zero_le _)
  split at h
  ·rename_i ℓ1 f1 hO1;obtain ⟨h1,h2⟩:=R.h.disj b' ℓ1 f1 hO1;have h3:=R.h.sane.no b' ℓ1 f1 hO1;split at h
   ·cases h;exact ⟨by omega,h2,by simp [Loc.root]⟩
   cases h;exact ⟨by omega,h2,h3⟩
  cases h
 have hkept : ∀ x v,G'.K x=some v->w'.cell? x=some v:=by
  intro x v h;have hx:=R.h.kept x v h;have hlt:=World.block_lt_of_cell? w _ hx;have hne:0<cap->x.block≠b:=by
   intro hc hxb;have hspot:=World.cell?_spot hx;obtain ⟨xb,j,s⟩:=x;simp at hspot hxb;subst hspot hxb;rcases (hb hc).2.1 with h2 | ⟨ℓ0,h2,_⟩
   ·simp at hlt;omega
   have:=(R.h.disj _ _ _ h2).2 j (Nat.zero_le _);have h':G.K ⟨xb,j,none⟩=some v:=h;rw [this] at h';cases h'
  unfold World.cell? at *
  rwa [hoth _ hlt hne]
 refine ⟨⟨⟨⟨fun b' x f h=>(hdisj b' x f h).2.2⟩,by simp [G',Gh.jag,hN],fun i ob hob => ?_,hkept,fun b' x f h=>⟨(hdisj b' x f h).1,(hdisj b' x f h).2.1⟩⟩,R.size,hslot,R.places,?_⟩,fun m hm => ?_,fun ℓ => ?_⟩
 ·simp only at hob;rcases Nat.lt_or_ge i N with hi | hi
  ·rw [zp7 (by omega)] at hob;exact hobj i ob hob
  rw [zp8 (by omega),hN] at hob
  match hq:i-N,hob with
  | 0,hob =>
    obtain rfl:i=N:=by omega
    simp at hob;subst hob;show i+2<G'.nh/\_;refine ⟨by simp [G',Gh.jag],by rw [hb2],by rw [hb1];exact hl,hu,fun p e=>(by cases e),fun hc => ?_⟩;rw [hb1] at hc ⊢;obtain ⟨h1,h2,vs,e,h3,h4,h5⟩:=hb hc;rw [hb0];refine ⟨vs,e,by simp only [G',Gh.jag];rw [if_pos ⟨hc,trivial⟩],h3,h4,fun j hj => ?_⟩;obtain ⟨ℓ,y,e1,e2,e3⟩:=h5 j hj;rw [e1];simp only [a3p,frA,if_true];refine .fresh _ _ _ _ (e3.mono (KLe.refl _) (fun b' hO => ?_));have hne:0<cap->b'≠b:=by
     rintro _ rfl;rcases h2 with h2 | ⟨ℓ0,h2,h6,_⟩
     ·have:=(R.h.disj _ _ _ hO).1;omega
     rw [hO] at h2;simp at h2;rw [h2,h6] at e2;cases e2
    obtain ⟨q1,q2⟩:=hOmv b' ℓ 0 hO hne;exact ⟨q2 j e2,q1⟩
  | 1,hob=>simp at hob;subst hob;trivial
  | 2,hob=>simp at hob;subst hob;trivial
  | q+3,hob=>simp at hob
 ·refine ⟨R.df.1,fun x hx => ?_⟩;obtain ⟨r0,h1,h2,h3⟩:=R.df.2 x hx;obtain ⟨h4,h5⟩:=hOold _ _ _ (hS .df (fun h=>by
   rcases h with h | ⟨i,j,h,_⟩
   ·simp [lets] at h
   cases h)) h2
  exact ⟨r0,h1,h4,h5.trans h3⟩
 ·refine ⟨KLe.refl _,fun x v h => .inl h,fun b' hb' h => ?_,hsz,fun i hi=>hβold i (by omega),hio⟩;have hne:0<cap->b'≠b:=by
   rintro hc rfl;rcases (hb hc).2.1 with h2 | ⟨ℓ0,h2,_⟩
   ·omega
   rw [h] at h2;cases h2
  refine ⟨hoth b' hb' hne,?_⟩;simp only [G',Gh.jag];rw [if_neg (by rintro ⟨hc,rfl⟩;exact hne hc rfl)];simp only [h]
 have:=RepV.gref (G:=G') (w:=w') ℓ N 1 p (by simp [G',Gh.jag]) (by rw [hb1,hb2];exact hl) (by rw [hb1,hb0];exact hp)
 rwa [hb1,hb2] at this
section
variable {P:Program} {T:a0j} (hT:TOk P T) {σ:St} {g:Nat->AV} {o:Oper} {ss:a1f} {h':Option (List Obj)} {H:List Obj} {an:Ann}
 (hg:Less g σ) (hgd : ∀ d,o.dst=some d->g d=σ.get d)
include hT hg hgd
theorem b4d {t:TypeId} {q:Nat} (hop:o.op = .buildSlice t 1 #[(0,.tmp q)]) {d k:Nat} {y:List D} (hdst:o.dst=some d) {sz e:Nat} {zz:List AV} (ht:T t=some { size:=sz,u := .slice e,zero:=zz }) {td:TD} (hte:T e=some td)
  (hsz:td.size=1) (hlt:d<σ.n) (hb:(g d).isBox=false) (hqd : ¬ q=d) (hq:g q = .fresh k y) :
  a0f P σ o [(q,.undef),(d,.gref σ.heap.length 1)] (some (σ.heap++[.jag k [.list k y] none,.dead,.dead])):=by
 have hnd : ∀ c,o.op ≠ .defer c:=by simp [hop]
 intro r n m G a w Q next hm R hn
 have hsg:σ.get q = .fresh k y:=(hg.eq hq (by simp));have hrep:=R.slots q;rw [hsg] at hrep;have hval:a.eval (.tmp q)=a.tmps.getD q Go.undef:=rfl;generalize hvv:a.tmps.getD q Go.undef=vv at hrep;cases hrep with | fresh _ _ _ _ hfr =>
 obtain ⟨p0,cap0,hv0,_⟩:=id hfr;have hcells:vv.cells = #[vv]:=by rw [hv0];rfl
 obtain ⟨i,dd,hi,hdd,hisz,hbytes,huok,z0,hz,hzs,hzl,hzc⟩:=hT.info hte;obtain ⟨cells',k1,k2,k3⟩:=a5h (k:=1) [((0:Nat),vv)] 0 ((Array.range (1*td.size)).map (z0.cells[· % z0.cells.size]!)) (fun j hj=>by simp at hj;subst hj;rfl) (fun p hp=>by simp at hp;subst hp;rw [hcells];rfl) (by simp [hsz]);have hc0:cells'.getD 0 Go.undef=vv:=by
  rw [k3 0,if_pos (by simp)];simp [cellsOf,hcells]
 have hcs:cells'.size=1:=by rw [k2];simp [hsz]
 have hrun:(execOp a.eval o).run P w = .ok (.value (.slice (some ⟨w.heap.size,0,none⟩) 1 1)) (w.alloc (.cells cells' e)):=by
  have k1':Instr.fill (fun i=>some (i*td.size,td.size)) ((Array.range (1*td.size)).map (z0.cells[· % z0.cells.size]!)) [((0:Nat),vv)]=some cells':=by
   rw [hsz] at k1 ⊢;simpa using k1
  have key:(Instr.buildSlice t 1 #[((0:Nat),vv)]).run P w = .ok (.slice (some ⟨w.heap.size,0,none⟩) 1 1) (w.alloc (.cells cells' e)):=by
   unfold Instr.buildSlice;simp only [Sem.run_bind,Go.underlying,run_program,Result.andThen_ok,hT.slice ht,Sem.run_pure,hT.size hte,gt_iff_lt];rw [if_neg (by rw [hsz];decide),if_neg (by rw [hsz];decide)];simp only [zeroValue,typeInfo,Sem.run_bind,run_program,hi,hz,Result.andThen_ok,Sem.run_pure];rw [k1'];simp [newRow]
  simp only [execOp,hop,Sem.run_bind,List.map_toArray,List.map_cons,List.map_nil,hval,hvv];rw [key];simp

 have R1:=R.reSlotG (s:=q) (c := .undef) (.undef _ _) rfl (by rw [hsg];rfl);let σ1:St:={ σ with env:=eset σ.env q .undef }
 have hfr1:a4i G w (.s q) k y vv:=hfr;obtain ⟨R2,hext,hrep2⟩:=R1.toJag (fun ℓ=>if ℓ = .s q then some 0 else none) (w':=w.alloc (.cells cells' e)) (k:=k) (l:=[.list k y]) (cap:=1) (b:=w.heap.size) (p:=some ⟨w.heap.size,0,none⟩) (fun _=>rfl) (fun x hx=>by simp at hx;exact ⟨y,hx⟩) (by simp) (by simp)
  ⟨rfl,rfl,fun ad _=>frozen?_alloc_new _ _ (fun _ _ _ e=>by cases e;rfl) ad,rfl,Nat.le_refl _⟩ (fun b' hb' _=>a0p hb') (fun ℓ j h=>by
   split at h
   ·rename_i e;subst e;exact .inl (by show ((σ1).get q).free=true;simp [σ1,St.get,a0e,AV.free])
   cases h) (fun _=>⟨by simp,.inl (Nat.le_refl _),cells',e,heap_alloc_new,by omega,fun j hj=>by
   have:j=0:=by simpa using hj
   subst this;exact ⟨.s q,y,rfl,by simp,by rw [hc0];exact hfr1⟩⟩)
 refine a0u hnd hrun (hn _ _ _ ?_ (hext m hm));rw [hdst];have hbd:(σ.get d).isBox=false:=by rw [<-hgd d hdst];exact hb
 have:=R2.put (d:=d) (hrep2 _) (fun r off e=>by cases e) (by show ((eset σ.env q .undef |> fun e=>({ σ with env:=e }:St)).get d).isBox=false;simp only [St.get,a0e,if_neg hqd];exact hbd) hlt
 simpa [St.upd,a0r] using this
theorem b4e {t:TypeId} {ln cp:Operand} (hop:o.op = .makeSlice t ln cp) {d:Nat} (hdst:o.dst=some d) {sz e:Nat} {zz:List AV} (ht:T t=some { size:=sz,u := .slice e,zero:=zz }) {td:TD} (hte:T e=some td) {kz kz':IntKind} {z z':Int}
  (hln:opD T g 0 ln=some (.int kz z)) (hcp:opD T g 0 cp=some (.int kz' z')) {y:D} (hy:a4M td=some y) (hlt:d<σ.n) (hb:(g d).isBox=false) (hpos:0<td.size) (hz0:0<=z) (hzz:z<=z') (hfit:z'<4294967296) :
  a0f P σ o [(d,.fresh td.size (Ar.std.rep z y))] none:=by
 have hnd : ∀ c,o.op ≠ .defer c:=by simp [hop]
 intro r n m G a w Q next hm R hn
 have h1:=a0w hg R hln;have h2:=a0w hg R hcp;obtain ⟨ie,de,hie,hde,hisz,hbytes,_⟩:=hT.info hte;obtain ⟨z0,hz0',hz0s,hyl,hzr⟩:=a3L hT hte hy hie;obtain ⟨N,rfl⟩:=zp9 hz0;obtain ⟨M,rfl⟩:=zp9 (show 0<=z' by omega);have hNM:N<=M:=by omega
 have e1:a.eval ln = .int kz N:=by generalize hv:a.eval ln=v at h1;cases h1;rfl
 have e2:a.eval cp = .int kz' M:=by generalize hv:a.eval cp=v at h2;cases h2;rfl
 have hmk:=run_make (P:=P) w t e ie z0 (hT.slice ht) hie hz0' kz kz' N M (by omega) (by omega) (by
  have:ie.bytes*M<=4096*4294967296:=Nat.mul_le_mul hbytes (by omega);have h3:((ie.bytes*M:Nat):Int)<=281474976710656:=by omega
  rwa [Int.natCast_mul] at h3) (by omega)
 simp only [Int.toNat_natCast,hisz] at hmk;have hu:a0k td.size (List.replicate N y):=fun x hx=>by rw [(List.mem_replicate.1 hx).2];exact hyl
 have hfl:=a0b hu;have hmul:N*td.size<=M*td.size:=Nat.mul_le_mul_right _ hNM;have hget : ∀ q,q<N*td.size->(madeCells z0.cells (M*td.size)).getD q Go.undef=z0.cells.getD (q%td.size) Go.undef:=by
  intro q hq;have hm:=Nat.mod_lt q hpos;have hq2:q<M*td.size:=by omega
  simp [madeCells,hz0s,hq2,Array.getD,hm]
 have hrep0:Ar.std.rep (N:Int) y=List.replicate N y:=by simp [Ar.std]
 rw [hrep0] at hn;have hrun:(execOp a.eval o).run P w = .ok (.value (.slice (some ⟨w.heap.size,0,none⟩) N M)) (w.alloc (.cells (madeCells z0.cells (M*td.size)) e)):=by simp [execOp,hop,e1,e2,hmk]
 have each : ∀ (q:Nat) (hq:q<(D.flat (List.replicate N y)).length),RepD G.K (D.flat (List.replicate N y))[q] ((madeCells z0.cells (M*td.size)).getD q Go.undef)/\((madeCells z0.cells (M*td.size)).getD q Go.undef).oneCell'=true:=by
  intro q hq;have hq':q<N*td.size:=by simpa [hfl] using hq
  have hqm:q%td.size<td.size:=Nat.mod_lt _ hpos;have hqd:q / td.size<N:=by rw [Nat.div_lt_iff_lt_mul hpos];exact hq'
  have hqq:q / td.size*td.size+q%td.size=q:=by rw [Nat.mul_comm];exact Nat.div_add_mod _ _
  have hfg:=a0C hu (i:=q / td.size) (y:=y) (by rw [List.getElem?_replicate,if_pos hqd]) (q%td.size) hqm;rw [hqq,zp1 hq,zp1 (by omega)] at hfg;rw [Option.some.inj hfg,hget q hq'];exact hzr _ _ _
 obtain ⟨R2,hext,hrep⟩:=R.toLoc (.s d) (by simp [Loc.root]) (w':=w.alloc (.cells (madeCells z0.cells (M*td.size)) e)) (k:=td.size) (l:=List.replicate N y) (cap:=M) (b:=w.heap.size) (p:=some ⟨w.heap.size,0,none⟩) (fun _=>rfl) hu (by simp;omega) (by simp)
  ⟨rfl,rfl,fun ad _=>frozen?_alloc_new _ _ (fun _ _ _ e=>by cases e;rfl) ad,rfl,Nat.le_refl _⟩ (fun b' hb' _=>a0p hb') (fun _ =>
   ⟨by simp,.inl (Nat.le_refl _),_,e,heap_alloc_new,by rw [size_madeCells];simp,fun q hq=>(each q hq).2,fun q hq=>(each q hq).1⟩)
 refine a0u hnd hrun (hn _ _ _ ?_ (hext m hm));rw [hdst];simp only [List.length_replicate] at R2 hrep;have:=R2.put (d:=d) (.fresh _ _ _ _ hrep) (fun r off e=>by cases e) (by show (σ.get d).isBox=false;rw [<-hgd d hdst];exact hb) hlt;simpa [St.upd,a0r] using this
theorem b1V {t:TypeId} (hop:o.op = .buildSlice t 1 #[(0,.const (.slice none 0 0))]) {d k:Nat} (hdst:o.dst=some d) {sz e:Nat} {zz:List AV} (ht:T t=some { size:=sz,u := .slice e,zero:=zz }) {td:TD} (hte:T e=some td)
  (hsz:td.size=1) (hlt:d<σ.n) (hb:(g d).isBox=false) :
  a0f P σ o [(d,.gref σ.heap.length 1)] (some (σ.heap++[.jag k [.list k []] none,.dead,.dead])):=by
 have hnd : ∀ c,o.op ≠ .defer c:=by simp [hop]
 intro r n m G a w Q next hm R hn
 obtain ⟨i,dd,hi,hdd,hisz,hbytes,huok,z0,hz,hzs,hzl,hzc⟩:=hT.info hte;obtain ⟨cells',k1,k2,k3⟩:=a5h (k:=1) [((0:Nat),(Value.slice none 0 0))] 0 ((Array.range (1*td.size)).map (z0.cells[· % z0.cells.size]!)) (fun j hj=>by simp at hj;subst hj;rfl) (fun p hp=>by simp at hp;subst hp;rfl) (by simp [hsz]);have hc0:cells'.getD 0 Go.undef = .slice none 0 0:=by
  rw [k3 0,if_pos (by simp)];simp [cellsOf,Value.cells]
 have hcs:cells'.size=1:=by rw [k2];simp [hsz]
 have hrun:(execOp a.eval o).run P w = .ok (.value (.slice (some ⟨w.heap.size,0,none⟩) 1 1)) (w.alloc (.cells cells' e)):=by
  have k1':Instr.fill (fun i=>some (i*td.size,td.size)) ((Array.range (1*td.size)).map (z0.cells[· % z0.cells.size]!)) [((0:Nat),(Value.slice none 0 0))]=some cells':=by
   rw [hsz] at k1 ⊢;simpa using k1
  have key:(Instr.buildSlice t 1 #[((0:Nat),(Value.slice none 0 0))]).run P w = .ok (.slice (some ⟨w.heap.size,0,none⟩) 1 1) (w.alloc (.cells cells' e)):=by
   unfold Instr.buildSlice;simp only [Sem.run_bind,Go.underlying,run_program,Result.andThen_ok,hT.slice ht,Sem.run_pure,hT.size hte,gt_iff_lt];rw [if_neg (by rw [hsz];decide),if_neg (by rw [hsz];decide)];simp only [zeroValue,typeInfo,Sem.run_bind,run_program,hi,hz,Result.andThen_ok,Sem.run_pure];rw [k1'];simp [newRow]
  have hev:a.eval (.const (.slice none 0 0)) = .slice none 0 0:=rfl;simp only [execOp,hop,Sem.run_bind,List.map_toArray,List.map_cons,List.map_nil,hev];rw [key];simp
 have hu:a0k 1 [D.list k []]:=fun x hx=>by simp at hx;subst hx;rfl
 have hfl:D.flat [D.list k []]=[D.list k []]:=rfl;obtain ⟨R2,hext,hrep⟩:=R.toGro (w':=w.alloc (.cells cells' e)) (k:=1) (l:=[D.list k []]) (cap:=1) (b:=w.heap.size) (p:=some ⟨w.heap.size,0,none⟩) (fun _=>rfl) hu (by simp) (by simp)
  ⟨rfl,rfl,fun ad _=>frozen?_alloc_new _ _ (fun _ _ _ e=>by cases e;rfl) ad,rfl,Nat.le_refl _⟩ (fun b' hb' _=>a0p hb') (fun _ =>
   ⟨by simp,.inl (Nat.le_refl _),_,e,heap_alloc_new,by omega,fun q hq=>by
    have:q=0:=by rw [hfl] at hq;simpa using hq
    subst this;rw [hc0];rfl,fun q hq=>by
    have:q=0:=by rw [hfl] at hq;simpa using hq
    subst this;rw [hc0];exact .nil k⟩)
 have R3:=R2.groJag (i:=σ.heap.length) (k:=k) (l:=[D.list k []]) (by simp) (fun x hx=>⟨[],by simpa using hx⟩) (fun vs e' hc hw j hj=>by
  have hb:(G.gro σ.heap.length w.heap.size 1 [D.list k []].length).β (.o σ.heap.length)=w.heap.size:=by simp [Gh.gro]
  rw [hb,heap_alloc_new] at hw;simp at hw;obtain ⟨rfl,rfl⟩:=hw;have hj':j=0:=by simpa using hj
  subst hj';rw [hc0];simp only [a3p,frA,List.getElem_cons_zero,if_true];exact .fresh _ _ _ _ ⟨none,0,rfl,fun x hx=>by simp at hx,Nat.le_refl _,fun h=>by omega⟩)
 have eset:(σ.heap++[Obj.gro 1 [D.list k []],.dead,.dead]).set σ.heap.length (.jag k [D.list k []] none)=σ.heap++[.jag k [D.list k []] none,.dead,.dead]:=by
  rw [List.set_append_right _ _ (Nat.le_refl _)];simp
 simp only [eset] at R3;refine a0u hnd hrun (hn _ _ _ ?_ (hext m hm));rw [hdst];have:=R3.put (d:=d) (hrep _) (fun r off e=>by cases e) (by show (σ.get d).isBox=false;rw [<-hgd d hdst];exact hb) hlt;simpa [St.upd,a0r] using this
theorem b1W {y k:Nat} {a0:Nat} {lo ln:Int} {l:List D} (hy:g y = .mref a0 k lo ln) (hHi:σ.heap[a0]?=some (.gro k l)) (hc:lo+ln<=(l.length:Int)) {G:Gh} {a:Act} {w:World} (R:Rel G σ a w) :
  a0k k (Ar.std.sub l lo (lo+ln))/\(∃ b cap,a.eval (.tmp y) = .slice b (Ar.std.sub l lo (lo+ln)).length cap) /\ ∀ w':World,w'.heap=w.heap -> ∃ arr:Array Value,(Builtin.firstCells k (Ar.std.sub l lo (lo+ln)).length (a.eval (.tmp y))).run P w' = .ok arr w'/\arr.size=(D.flat (Ar.std.sub l lo (lo+ln))).length /\
   ∀ (q:Nat) (hq:q<(D.flat (Ar.std.sub l lo (lo+ln))).length),RepD G.K (D.flat (Ar.std.sub l lo (lo+ln)))[q] (arr.getD q Go.undef)/\(arr.getD q Go.undef).oneCell'=true:=by
 obtain ⟨b,off,cap,hv,hnh,hlo,hn0,hcap,hbo⟩:=a0Y hg R (x := .tmp y) hy;obtain ⟨_,hlen,hlc,hu,hrow⟩:=R.h.objs a0 _ hHi;obtain ⟨LO,rfl⟩:=zp9 hlo;obtain ⟨N,rfl⟩:=zp9 hn0;have hfl:=a0b hu;have e0:Ar.std.sub l (LO:Int) ((LO:Int)+(N:Int))=(l.drop LO).take N:=by
  simp only [Ar.std];have:((LO:Int)+(N:Int)).toNat-(LO:Int).toNat=N:=by omega
  rw [this];rfl
 rw [e0];have hln:((l.drop LO).take N).length=N:=by simp;omega
 have huf:a0k k ((l.drop LO).take N):=fun x hx=>hu x (List.mem_of_mem_drop (List.mem_of_mem_take hx));have hff:=a0b huf;rw [hln] at hff;refine ⟨huf,⟨_,cap,by rw [hln];simpa using hv⟩,fun w' hw' => ?_⟩;rw [hln,hv];simp only [Int.toNat_natCast];have hmul:LO*k+N*k<=l.length*k:=by rw [<-Nat.add_mul];exact Nat.mul_le_mul_right _ (by omega)
 rcases Nat.eq_zero_or_pos N with h0 | h0
 ·subst h0;refine ⟨#[],by simp [Builtin.firstCells,loadCells,loadCellsFrom],?_,fun q hq => ?_⟩
  ·rw [hff];simp
  rw [hff] at hq;omega
 obtain ⟨rfl,rfl⟩:=hbo (by omega);obtain ⟨vs,e,hO,hw,hsz,hone,hh⟩:=hrow (by omega);have hmulc:l.length*k<=G.β (.o (a0+1))*k:=Nat.mul_le_mul_right _ hlc;simp only [Int.toNat_natCast];have hl:=run_loadCells (P:=P) w' ⟨G.β (.o a0),LO*k,none⟩ (N*k) (fun j=>vs.getD (LO*k+j) Go.undef) (fun j hj=>by
  rw [Addr.add_none];have:=a0S hw (show LO*k+j<vs.size by omega);unfold World.cell? at *
  rwa [hw'])
 refine ⟨((List.range (N*k)).map fun j=>vs.getD (LO*k+j) Go.undef).toArray,by simp [Builtin.firstCells,hl],by simp [hff],fun q hq => ?_⟩;rw [hff] at hq;have e1:((List.range (N*k)).map fun j=>vs.getD (LO*k+j) Go.undef).toArray.getD q Go.undef=vs.getD (LO*k+q) Go.undef:=by
  simp [hq]
 rw [e1];have e2:D.flat ((l.drop LO).take N)=((D.flat l).drop (LO*k)).take (N*k):=by
  rw [a0Q (fun x hx=>hu x (List.mem_of_mem_drop hx)),a1p hu]
 have hj:LO*k+q<(D.flat l).length:=by omega
 have e3:(D.flat ((l.drop LO).take N))[q]'(by rw [hff];exact hq)=(D.flat l)[LO*k+q]:=by
  apply Option.some.inj;rw [<-zp1,<-zp1,e2,List.getElem?_take_of_lt hq,List.getElem?_drop]
 rw [e3];exact ⟨hh _ hj,hone _ hj⟩
theorem b1X {t:TypeId} {s:Nat} {lo:Operand} (hop:o.op = .slice t (.tmp s) (some lo) none none) {a0 k:Nat} {l:List D} (hs:g s = .gref a0 k) (hHi:σ.heap[a0]?=some (.gro k l)) {z:Int}
  (hes:a0h T t=some k) (hb:bound g T 0 (some lo)=some z) (hz0:0<=z) (hz1:z<=(l.length:Int)) (hne:0<l.length) (h:put σ.n g o.dst (.mref a0 k z ((l.length:Int)-z))=some (ss,h')):a0f P σ o ss h':=by
 obtain ⟨sz,e,zz,td,ht,hte,rfl⟩:=a0l hes;refine a0d hgd h (by simp [hop]) (AV.free_place rfl) ?_;intro G a w R;obtain ⟨p,hv,hnh,hle,hp⟩:=a1L hg R hs;obtain ⟨_,q1,q2,hu,q3⟩:=R.h.objs a0 _ hHi;obtain rfl:=hp (by omega);obtain ⟨nl,rfl⟩:=zp9 hz0;obtain ⟨kk,e1⟩:=a0y hg hb R;have hrun:=a0D (P:=P) (w:=w) (len:=G.β (.o (a0+2))) (cap:=G.β (.o (a0+1))) (nl:=nl) (nh:=G.β (.o (a0+2))) (m:=G.β (.o (a0+1))) (low:=some (a.eval lo)) (high:=none) (max:=none)
  (.inr ⟨kk,by rw [e1]⟩) (.inl ⟨rfl,rfl⟩) (.inl ⟨rfl,rfl⟩) (by omega) hle (Nat.le_refl _)
 refine ⟨_,by simp [execOp,hop,Instr.sliceAt,Instr.slice,Go.underlying,hT.slice ht,hv,hrun,hT.size hte];rfl,fun d => ?_⟩;have e2:((l.length:Int)-(nl:Int)).toNat=G.β (.o (a0+2))-nl:=by omega
 have hnh0:a0<G.nh:=by omega
 by_cases hm:G.β (.o (a0+1))=nl
 ·rw [if_pos hm];have:=RepV.mref (G:=G) (w:=w) (.s d) a0 td.size (nl:Int) ((l.length:Int)-nl) (G.β (.o a0)) 0 (G.β (.o (a0+1))-nl) hnh0 (by omega) (by omega) (by omega) (by omega)
  rwa [e2] at this
 rw [if_neg hm];have:=RepV.mref (G:=G) (w:=w) (.s d) a0 td.size (nl:Int) ((l.length:Int)-nl) (G.β (.o a0)) (nl*td.size) (G.β (.o (a0+1))-nl) hnh0 (by omega) (by omega) (by omega) (fun _=>⟨rfl,by simp⟩);rw [e2] at this;simpa [Addr.add_none] using this
theorem b1Y {s q:Nat} {t u:TypeId} (hop:o.op = .call { callee := .builtin .append,args := #[.tmp s,.tmp q],argTypes := #[t,u] }) {a0 a1 k d:Nat} {l ys:List D} (hs:g s = .gref a0 1) (hHi:σ.heap[a0]?=some (.jag k l none))
  (hq:g q = .gref a1 1) (hHq:σ.heap[a1]?=some (.jag k ys none)) (hne:a0≠a1) (het:a0h T t=some 1) (heu:a0h T u=some 1) (hdst:o.dst=some d) (hlt:d<σ.n) (hbx:(g d).isBox=false) (hfits:(l.length:Int)+ys.length<4294967296) :
  a0f P σ o [(d,.gref σ.heap.length 1)] (some ((σ.heap.set a0 .dead).set a1 .dead++[.jag k (l++ys) none,.dead,.dead])):=by
 have hnd : ∀ c,o.op ≠ .defer c:=by simp [hop]
 obtain ⟨sz,e,zz,td,hTt,hTe,hks⟩:=a0l het;obtain ⟨sz1,e1,zz1,td1,hTt1,hTe1,hks1⟩:=a0l heu;obtain ⟨ie,dd,hie,hdd,hsz,hbytes,huok,z0,hz,hzs,hzl,hzc⟩:=hT.info hTe;have hks:td.size=1:=hks.symm▸rfl;intro r n m G a w Q next hm R hn
 obtain ⟨p,hsv,hnh,hle,hp⟩:=a1L hg R hs;obtain ⟨p',hyv,hnh',hle',hp'⟩:=a1L hg R hq;obtain ⟨g0,g1,g2,g3,go,g4⟩:=R.h.objs a0 _ hHi;obtain ⟨j0,j1,j2,j3,jo,j4⟩:=R.h.objs a1 _ hHq;generalize hcs:G.β (.o (a0+1))=cs at *;generalize hcy:G.β (.o (a1+1))=cy at *;rw [<-g1] at hsv;rw [<-j1] at hyv

 obtain ⟨arrY,f1,f2,f4⟩ : ∃ arrY:Array Value,(∀ w':World,w'.heap=w.heap->(Builtin.firstCells 1 ys.length (Value.slice p' ys.length cy)).run P w' = .ok arrY w')/\arrY.size=ys.length /\
   ∀ (j:Nat) (hj:j<ys.length),∃ y,ys[j] = .list k y/\a4i G w (.oc a1 j) k y (arrY.getD j Go.undef)/\(arrY.getD j Go.undef).oneCell'=true:=by
  rcases Nat.eq_zero_or_pos ys.length with h0 | h0
  ·refine ⟨#[],fun w' _ => ?_,by simp [h0],fun j hj=>by omega⟩;rw [h0];cases p' <;> simp [Builtin.firstCells,loadCells,loadCellsFrom]
  obtain rfl:=hp' (by omega);obtain ⟨vs,e',o1,o2,o3,o4⟩:=j4 (by omega);refine ⟨((List.range (ys.length*1)).map fun j=>vs.getD j Go.undef).toArray,fun w' hw'=>a1M (P:=P) (w:=w') (by rw [hw'];exact o2) (by omega),by simp,fun j hj => ?_⟩;have e3:((List.range (ys.length*1)).map fun j=>vs.getD j Go.undef).toArray.getD j Go.undef=vs.getD j Go.undef:=by simp [hj]
  rw [e3];obtain ⟨y,hy⟩:=j3 _ (zp6 hj);have:=o4 j hj;rw [hy] at this;simp only [a3p,frA,if_true] at this;have h1:=this.oneCell rfl;cases this with | fresh _ _ _ _ hf=>exact ⟨y,hy,hf,h1⟩

 obtain ⟨arrS,s1,s2,s4⟩ : ∃ arrS:Array Value,(∀ w':World,w'.heap=w.heap->(Builtin.firstCells 1 l.length (Value.slice p l.length cs)).run P w' = .ok arrS w')/\arrS.size=l.length /\
   ∀ (j:Nat) (hj:j<l.length),∃ y,l[j] = .list k y/\a4i G w (.oc a0 j) k y (arrS.getD j Go.undef)/\(arrS.getD j Go.undef).oneCell'=true:=by
  rcases Nat.eq_zero_or_pos l.length with h0 | h0
  ·refine ⟨#[],fun w' _ => ?_,by simp [h0],fun j hj=>by omega⟩;rw [h0];cases p <;> simp [Builtin.firstCells,loadCells,loadCellsFrom]
  obtain rfl:=hp (by omega);obtain ⟨vs,e',o1,o2,o3,o4⟩:=g4 (by omega);refine ⟨((List.range (l.length*1)).map fun j=>vs.getD j Go.undef).toArray,fun w' hw'=>a1M (P:=P) (w:=w') (by rw [hw'];exact o2) (by omega),by simp,fun j hj => ?_⟩;have e3:((List.range (l.length*1)).map fun j=>vs.getD j Go.undef).toArray.getD j Go.undef=vs.getD j Go.undef:=by simp [hj]
  rw [e3];obtain ⟨y,hy⟩:=g3 _ (zp6 hj);have:=o4 j hj;rw [hy] at this;simp only [a3p,frA,if_true] at this;have h1:=this.oneCell rfl;cases this with | fresh _ _ _ _ hf=>exact ⟨y,hy,hf,h1⟩
 have R1:=(R.kill a0).kill a1;let σ1:St:={ σ with heap:=(σ.heap.set a0 .dead).set a1 .dead }
 have hd0:σ1.heap[a0]?=some .dead:=by
  show ((σ.heap.set a0 .dead).set a1 .dead)[a0]?=_;rw [List.getElem?_set_ne (Ne.symm hne),List.getElem?_set_self (zp2.1 hHi).1]
 have hd1:σ1.heap[a1]?=some .dead:=by
  show ((σ.heap.set a0 .dead).set a1 .dead)[a1]?=_;rw [List.getElem?_set_self (by simpa using (zp2.1 hHq).1)]
 let mv:Loc->Option Nat:=fun ℓ=>match ℓ with
  | .oc i j=>if i=a0 then some j else if i=a1 then some (l.length+j) else none
  | _=>none
 have hmv : ∀ ℓ j,mv ℓ=some j->b1U σ1 ℓ:=by
  intro ℓ j h;simp only [mv] at h;split at h
  ·rename_i i j';split at h
   ·rename_i e;subst e;exact .inr ⟨_,_,rfl,hd0⟩
   split at h
   ·rename_i e;subst e;exact .inr ⟨_,_,rfl,hd1⟩
   cases h
  cases h
 have hll : ∀ x∈l++ys,∃ y,x = .list k y:=fun x hx=>(List.mem_append.1 hx).elim (g3 x) (j3 x);have hlen1:σ1.heap.length=σ.heap.length:=by simp [σ1]

 have fin : ∀ (b' cap':Nat) (p1:Option Addr) (w':World),(execOp a.eval o).run P w = .ok (.value (.slice p1 (l++ys).length cap')) w'->Rel (G.jag mv σ1.heap.length b' cap' (l++ys).length) { σ1 with heap:=σ1.heap++[.jag k (l++ys) none,.dead,.dead] } a w' /\
   (∀ m,m<=G.nh->Ext m G w (G.jag mv σ1.heap.length b' cap' (l++ys).length) w')/\(∀ ℓ,RepV (G.jag mv σ1.heap.length b' cap' (l++ys).length) w' ℓ (.gref σ1.heap.length 1) (.slice p1 (l++ys).length cap'))->o.wpIn (Wd r) n P a w next Q:=by
  rintro b' cap' p1 w' hrun ⟨R2,hext,hrep⟩;refine a0u hnd hrun (hn _ _ _ ?_ (hext m hm));rw [hdst];have hbd:(σ.get d).isBox=false:=by rw [<-hgd d hdst];exact hbx
  have:=R2.put (d:=d) (hrep _) (fun r off e=>by cases e) hbd hlt;rw [hlen1] at this;simpa [St.upd,a0r,σ1] using this
 have oneY : ∀ v∈arrY.toList,v.oneCell'=true:=by
  intro v hv;obtain ⟨q,hq,rfl⟩:=List.mem_iff_getElem.1 hv;have hq1:q<arrY.size:=by simpa using hq
  obtain ⟨_,_,_,h1⟩:=f4 q (by omega);simpa [Array.getD,hq1] using h1
 by_cases hcap:l.length+ys.length<=cs
 ·by_cases hy0:ys.length=0
  ·have hye:ys=[]:=List.eq_nil_of_length_eq_zero hy0;have harr:arrY = #[]:=Array.eq_empty_of_size_eq_zero (by omega);have hrun:(execOp a.eval o).run P w = .ok (.value (.slice p (l++ys).length cs)) w:=by
    have f1':=f1 w rfl;rw [harr,hy0] at f1';have hcap':l.length<=cs:=by omega
    cases p with
    | none=>simp [execOp,hop,resolve,invoke,Go.builtin,Builtin.append_,hsv,hyv,Go.underlying,hT.slice hTt,hT.slice hTt1,hT.size hTe,Builtin.lenOf,hks,hy0,f1',hcap',hye]
    | some b=>simp [execOp,hop,resolve,invoke,Go.builtin,Builtin.append_,hsv,hyv,Go.underlying,hT.slice hTt,hT.slice hTt1,hT.size hTe,Builtin.lenOf,hks,hy0,f1',hcap',storeCells,hye]
   refine fin (G.β (.o a0)) cs p _ hrun ?_;refine R1.toJag mv (w':=w) (k:=k) (l:=l++ys) (cap:=cs) (b:=G.β (.o a0)) (p:=p) hp hll (by simp;omega) (Nat.le_refl _) ⟨rfl,rfl,fun _ _=>rfl,rfl,Nat.le_refl _⟩ (fun _ _ _=>rfl) hmv (fun hc => ?_);obtain ⟨vs,e',o1,o2,o3,o4⟩:=g4 hc;refine ⟨(Array.getElem?_eq_some_iff.1 o2).1,.inr ⟨_,o1,rfl,.inl hd0⟩,vs,e',o2,o3,fun j hj => ?_⟩;subst hye;have hj':j<l.length:=by simpa using hj
   obtain ⟨y,hy⟩:=g3 _ (zp6 hj');have:=o4 j hj';rw [hy] at this;simp only [a3p,frA,if_true] at this;cases this with | fresh _ _ _ _ hf=>exact ⟨.oc a0 j,y,by simpa using hy,by simp [mv],hf⟩
  obtain rfl:=hp (by omega);obtain ⟨cur,ec,o1,o2,o3,o4⟩:=g4 (by omega);have hlenY:arrY.toList.length=ys.length:=by simpa using f2
  have hst:=run_storeCells_at P (G.β (.o a0)) (0+l.length*1) ec arrY.toList 0 cur w o2 (by omega) oneY;have hrs:(0+l.length*1)+arrY.toList.length<=cur.size:=by omega
  have hrun:(execOp a.eval o).run P w = .ok (.value (.slice (some ⟨G.β (.o a0),0,none⟩) (l++ys).length cs)) (w.setRow (G.β (.o a0)) (rowOf cur (0+l.length*1) arrY.toList)):=by
   simp only [Nat.add_zero] at hst;simp [execOp,hop,resolve,invoke,Go.builtin,Builtin.append_,hsv,hyv,Go.underlying,hT.slice hTt,hT.slice hTt1,hT.size hTe,Builtin.lenOf,hks,f1 w rfl,hcap,Addr.add_none];simp only [Nat.zero_add,Nat.mul_one] at hst ⊢;simp [hst,rowOf]
  refine fin (G.β (.o a0)) cs _ _ hrun ?_;refine R1.toJag mv (w':=w.setRow (G.β (.o a0)) (rowOf cur (0+l.length*1) arrY.toList)) (k:=k) (l:=l++ys) (cap:=cs) (b:=G.β (.o a0)) (p:=some ⟨G.β (.o a0),0,none⟩) (fun _=>rfl) hll (by simpa using hcap) (by simp)
   ⟨rfl,rfl,fun ad _=>a1C _ _ _ ad,rfl,Nat.le_refl _⟩ (fun b' hb' hne'=>setRow_other _ _ _ _ (hne' (by omega))) hmv (fun hc => ?_)
  refine ⟨by simpa using (Array.getElem?_eq_some_iff.1 o2).1,.inr ⟨_,o1,rfl,.inl hd0⟩,_,ec,setRow_heap _ _ _ _ _ _ o2,by rw [a0I hrs];exact o3,fun j hj => ?_⟩;rw [a0R hrs];by_cases c1:j<l.length
  ·rw [if_pos (by omega)];obtain ⟨y,hy⟩:=g3 _ (zp6 c1);have:=o4 j c1;rw [hy] at this;simp only [a3p,frA,if_true] at this;cases this with | fresh _ _ _ _ hf=>exact ⟨.oc a0 j,y,by rw [List.getElem_append_left c1];exact hy,by simp [mv],hf⟩
  have hj2:j-l.length<ys.length:=by simp at hj;omega
  rw [if_neg (by omega),if_pos (by omega)];obtain ⟨y,hy,hf,_⟩:=f4 _ hj2;refine ⟨.oc a1 (j-l.length),y,by rw [List.getElem_append_right (by omega)];exact hy,?_,?_⟩
  ·simp only [mv];rw [if_neg (Ne.symm hne),if_pos trivial];congr 1;omega
  have e0:arrY.toList.getD (j-(0+l.length*1)) Go.undef=arrY.getD (j-l.length) Go.undef:=by
   rw [Nat.zero_add,Nat.mul_one];simp [List.getD,zp5]
  rw [e0];exact hf
 have hneed:l.length+ys.length<4294967296:=by omega
 have hbig : ¬ Builtin.nextslicecap (l.length+ys.length) cs*ie.bytes>2 ^ 48:=by
  have h1:=a1D (need:=l.length+ys.length) (cap:=cs) (by omega);have h2:Builtin.nextslicecap (l.length+ys.length) cs*ie.bytes<=(2*(l.length+ys.length)+200)*4096:=Nat.mul_le_mul h1 hbytes;omega
 let qn:=Question.appendCap (l.length+ys.length) cs e;let nc:=qn.cut (w.tape w.drawn qn);let wd:=w.drew;have hwd:wd.heap=w.heap:=rfl;have hnc:l.length+ys.length<=nc:=by simp [nc,qn,Question.cut]
 let rest:=Builtin.zeroCells z0.cells (nc-(l.length+ys.length));have hrest:rest.size=nc-(l.length+ys.length):=by simp [rest,Builtin.zeroCells,hzs,hks]
 have hrun:(execOp a.eval o).run P w = .ok (.value (.slice (some ⟨w.heap.size,0,none⟩) (l++ys).length nc)) (wd.alloc (.cells (arrS++arrY++rest) e)):=by
  have key:(Builtin.append_ #[t,u] o.type #[.slice p l.length cs,a.eval (.tmp q)]).run P w = .ok (.slice (some ⟨w.heap.size,0,none⟩) (l.length+ys.length) nc) (wd.alloc (.cells (arrS++arrY++rest) e)):=by
   unfold Builtin.append_;simp [Go.underlying,hT.slice hTt,hT.slice hTt1,hT.size hTe,Builtin.lenOf,hyv,hcap,hks,typeInfo,hie,hbig];have hmax' : ¬ ((9223372036854775807:Int)<(l.length:Int)+(ys.length:Int)/\ie.bytes=0):=by
    intro hh;omega
   rw [if_neg hmax'];have hforced':(Question.appendCap (l.length+ys.length) cs e).forced=false:=rfl;simp only [hforced',Bool.false_eq_true,if_false];rw [show (Builtin.firstCells 1 l.length (Value.slice p l.length cs)).run P w.drew=_ from s1 _ hwd];simp only [Result.andThen_ok];rw [show (Builtin.firstCells 1 ys.length (Value.slice p' ys.length cy)).run P w.drew=_ from f1 _ hwd];simp only [Result.andThen_ok,zeroValue,typeInfo,Sem.run_bind,run_program,hie,hz,Sem.run_pure,newRow,run_newObj];simp [rest,nc,qn,wd]
   rfl
  simp only [execOp,hop,resolve,invoke,Go.builtin,Sem.run_bind,Sem.run_pure,Result.andThen_ok];simp [hsv,key]
 have hnew:(wd.alloc (.cells (arrS++arrY++rest) e)).heap[w.heap.size]?=some (.cells (arrS++arrY++rest) e (0,0)):=heap_alloc_new (w:=wd);refine fin w.heap.size nc _ _ hrun ?_;refine R1.toJag mv (w':=wd.alloc (.cells (arrS++arrY++rest) e)) (k:=k) (l:=l++ys) (cap:=nc) (b:=w.heap.size) (p:=some ⟨w.heap.size,0,none⟩) (fun _=>rfl) hll (by simpa using hnc) (by simp [wd])
  ⟨rfl,rfl,fun ad _=>(frozen?_alloc_new _ _ (fun _ _ _ e=>by cases e;rfl) ad).trans rfl,rfl,Nat.le_succ _⟩ (fun b' hb' _=>a0p (w:=wd) hb') hmv (fun _ => ?_)
 refine ⟨by simp [wd],.inl (Nat.le_refl _),_,e,hnew,?_,fun j hj => ?_⟩
 ·simp only [Array.size_append,s2,f2,hrest];omega
 have e0:(arrS++arrY++rest).getD j Go.undef=if j<arrS.size then arrS.getD j Go.undef else arrY.getD (j-arrS.size) Go.undef:=by
  simp only [List.length_append] at hj;simp only [zp5];split
  ·rename_i hq1;rw [Array.getElem?_append_left (by simp;omega),Array.getElem?_append_left hq1]
  rename_i hq1;rw [Array.getElem?_append_left (by simp;omega),Array.getElem?_append_right (by omega)]
 rw [e0];by_cases c1:j<l.length
 ·rw [if_pos (by omega)];obtain ⟨y,hy,hf,_⟩:=s4 j c1;exact ⟨.oc a0 j,y,by rw [List.getElem_append_left c1];exact hy,by simp [mv],hf⟩
 have hj2:j-l.length<ys.length:=by simp at hj;omega
 rw [if_neg (by omega),s2];obtain ⟨y,hy,hf,_⟩:=f4 _ hj2;refine ⟨.oc a1 (j-l.length),y,by rw [List.getElem_append_right (by omega)];exact hy,?_,hf⟩;simp only [mv];rw [if_neg (Ne.symm hne),if_pos trivial];congr 1;omega
end
section
variable {P:Program} {T:a0j} (hT:TOk P T) {σ:St} {g:Nat->AV} {o:Oper} {ss:a1f} {h':Option (List Obj)} {H:List Obj} {an:Ann}
 (hg:Less g σ) (hgd : ∀ d,o.dst=some d->g d=σ.get d)
include hT hg hgd
theorem b4f (hH : ∀ (i:Nat) (ob:Obj),H[i]?=some ob->σ.heap[i]?=some ob) (hHe:a0F an g o=true->H=σ.heap) (h:a3z Ar.std T an σ.n g H o=some (some (ss,h'))):a0f P σ o ss h':=by
 unfold a3z at h;split at h
 ·rename_i args ts hop;split at h
  ·rename_i s t hargs hts;obtain rfl:args = #[.tmp s]:=by cases args;simp_all
   obtain rfl:ts = #[t]:=by cases ts;simp_all
   split at h
   ·rename_i a0 hs;split at h
    ·rename_i k l w0 hHi;simp only [zp3] at h;split at h
     ·rename_i sz e z ht;exact b7t hT hg hgd hop hs (hH _ _ hHi) ht h
     cases h
    cases h
   cases h
  cases h
 ·rename_i t s i hop;split at h
  ·rename_i a0 hs;split at h
   ·rename_i k l w0 hHi;simp only [zp3] at h;split at h
    ·rename_i sz e zz kz z ht hi;split at h
     ·rename_i td hte;split at h
      ·rename_i hc;simp only [zp4,decide_eq_true_eq,a2u] at hc;obtain ⟨⟨hk,hz0⟩,hz1⟩:=hc;exact b4c hT hg hgd hop hs (hH _ _ hHi) ht hte hi hk hz0 (by simpa [Ar.std] using hz1) h
      cases h
     cases h
    cases h
   cases h
  cases h
 ·rename_i t s hop;split at h
  ·rename_i a0 i hs;split at h
   ·rename_i k l z x hHi;simp only [zp3] at h;split at h
    ·rename_i td ht;split at h
     ·rename_i hc;obtain ⟨h1,h2,h3,h4,h5⟩:=hc;exact b5R hT hg hgd hop hs (hH _ _ hHi) ht h1 h2 h3 (by simpa [Ar.std] using h4) (by simpa [Ar.std] using h5) h
     cases h
    cases h
   cases h
  cases h
 ·rename_i t s q hop;split at h
  ·rename_i a0 i hs;have hHσ:H=σ.heap:=hHe (by simp [a0F,hop,hs]);subst hHσ;split at h
   ·rename_i k l w0 hHi;simp only [zp3] at h;split at h
    ·rename_i td ht hdst;split at h
     ·rename_i hc;obtain ⟨h1,h2,h3,h4⟩:=hc;have h4':i<(l.length:Int):=by simpa [Ar.std] using h4
      split at h
      ·rename_i k' y hq;split at h
       ·rename_i hk;subst hk;cases h;exact b1T hT hg hgd hop hs hq hHi ht h1 h3 h4' hdst
       cases h
      ·rename_i b k' lo m hq;cases h;exact a8a hT hg hgd hop hs hq rfl hHi ht h1 h3 h4' hdst
      ·rename_i b k' hq;cases h;exact a8a hT hg hgd hop hs hq rfl hHi ht h1 h3 h4' hdst
      cases h
     cases h
    cases h
   cases h
  cases h
 ·rename_i t ln cp hop;split at h
  ·rename_i d hdst;split at h
   ·rename_i hvx;simp only [zp3] at h;split at h
    ·rename_i sz e zz kz z kz' z' ht hln hcp;split at h
     ·rename_i td hte;split at h
      ·rename_i y hzr;split at h
       ·rename_i hc;simp [Ar.std] at hc;obtain ⟨⟨⟨⟨⟨hlt,hb⟩,hpos⟩,rfl⟩,hfit⟩,hz0⟩:=hc;cases h;exact b4e hT hg hgd hop hdst ht hte hln hcp hzr hlt hb hpos hz0 (Int.le_refl _) hfit
       cases h
      cases h
     cases h
    cases h
   split at h
   ·rename_i hgr;have hHσ:H=σ.heap:=hHe (by simp [a0F,hop]);subst hHσ;simp only [zp3] at h;split at h
    ·rename_i sz e zz kz z kz' z' ht hln hcp;split at h
     ·rename_i td hte;split at h
      ·rename_i k hzr;split at h
       ·rename_i hc;simp [Ar.std] at hc;obtain ⟨⟨⟨⟨⟨⟨hlt,hb⟩,hsz⟩,hag⟩,rfl⟩,hfit⟩,hz0⟩:=hc;cases h;exact b5S hT hg hgd hop hdst ht hte hln hcp hzr hag hlt hb hsz hz0 hfit
       cases h
      cases h
     cases h
    cases h
   cases h
  cases h
 ·rename_i t s lo hop;split at h
  ·rename_i a0 k hs;have hHσ:H=σ.heap:=hHe (by simp [a0F,hop,hs]);subst hHσ;split at h
   ·rename_i k' l hHi;simp only [zp3] at h;split at h
    ·rename_i es z hes hb;split at h
     ·rename_i hc;simp only [Ar.std,zp4,decide_eq_true_eq] at hc;obtain ⟨⟨⟨⟨h1,h2⟩,h3⟩,h4⟩,h5⟩:=hc;subst h1 h2;exact b1X hT hg hgd hop hs hHi hes hb h3 h4 (by omega) h
     cases h
    cases h
   cases h
  cases h
 ·rename_i t cnt parts hop;split at h
  ·rename_i d hdst;split at h
   ·rename_i hgr;have hHσ:H=σ.heap:=hHe (by simp only [a0F,hop,hdst,hgr,Bool.or_true]);subst hHσ;split at h
    ·rename_i q hparts;obtain rfl:parts = #[(0,.tmp q)]:=by cases parts;simp_all
     split at h
     ·rename_i k y hq;simp only [zp3] at h;split at h
      ·rename_i sz e zz ht;split at h
       ·rename_i td hte;split at h
        ·rename_i hc;simp at hc;obtain ⟨⟨⟨hsz,hlt⟩,hb⟩,hqd⟩:=hc;cases h;exact b4d hT hg hgd hop hdst ht hte hsz hlt hb hqd hq
        cases h
       cases h
      cases h
     cases h
    ·rename_i hparts;obtain rfl:parts = #[(0,.const (.slice none 0 0))]:=by cases parts;simp_all
     simp only [zp3] at h;split at h
     ·rename_i sz e zz ht;split at h
      ·rename_i td hte;split at h
       ·rename_i k hzr;split at h
        ·rename_i hc;simp at hc;obtain ⟨⟨hsz,hlt⟩,hb⟩:=hc;cases h;exact b1V hT hg hgd hop hdst ht hte hsz hlt hb
        cases h
       cases h
      cases h
     cases h
    cases h
   cases h
  cases h
 ·rename_i args ts hop;split at h
  ·rename_i s q t u d hargs hts hdst;obtain rfl:args = #[.tmp s,.tmp q]:=by cases args;simp_all
   obtain rfl:ts = #[t,u]:=by cases ts;simp_all
   split at h
   ·rename_i a0 a1 hs hq;have hHσ:H=σ.heap:=hHe (by simp [a0F,hop,hs]);subst hHσ;split at h
    ·rename_i k l k' ys hHi hHq;simp only [zp3] at h;split at h
     ·rename_i het heu;split at h
      ·rename_i hc;simp [Ar.std] at hc;obtain ⟨⟨⟨⟨rfl,hne⟩,hlt⟩,hb⟩,hfits⟩:=hc;cases h;exact b1Y hT hg hgd hop hs hHi hq hHq hne het heu hdst hlt hb hfits
      cases h
     cases h
    cases h
   ·rename_i v v2 a0 k lo ln hy;have hHσ:H=σ.heap:=hHe (by simp [a0F,hop,hy]);subst hHσ;split at h
    ·rename_i k' l hHi;split at h
     ·rename_i hgr;split at h
      ·rename_i k0 hem;simp only [zp3] at h;split at h
       ·rename_i es es' het heu;split at h
        ·rename_i hc;simp only [zp4,decide_eq_true_eq,Bool.not_eq_true'] at hc;obtain ⟨⟨⟨⟨⟨⟨⟨⟨⟨rfl,rfl⟩,rfl⟩,rfl⟩,hk⟩,hlt⟩,hb⟩,hsd⟩,hcc⟩,hfits⟩:=hc;cases h;have hcc':lo+ln<=(l.length:Int):=by simpa [Ar.std] using hcc
         have hf':((Ar.std.sub l lo (lo+ln)).length:Int)<4294967296:=by simpa [Ar.std] using hfits
         exact a6o hT hg hgd hop hem het heu (fun R=>b1W hT hg hgd hy hHi hcc' R) hdst hk hlt hb hsd hf'
        cases h
       cases h
      cases h
     cases h
    cases h
   cases h
  cases h
 cases h
end
theorem b1Z {A:Ar} {T:a0j} {an:Ann} {n:Nat} {g:Nat->AV} {H H':List Obj} {o:Oper} {ss:a1f} (h:a3z A T an n g H o=some (some (ss,some H'))):H.length<=H'.length:=by
 unfold a3z at h;have hput : ∀ {dst v},put n g dst v≠some (ss,some H'):=by
  intro dst v h;obtain ⟨h,_⟩:=a0B h;cases h
 repeat' split at h
 all_goals first
  | (cases h;done)
  | (simp only [zp3] at h;exact absurd h hput)
  | (simp at h;done)
  | (simp only [zp3,Prod.mk.injEq] at h;rw [<-h.2];simp)
theorem b2a {P:Program} {T:a0j} (hT:TOk P T) {σ:St} {g:Nat->AV} {o:Oper} {ss:a1f} {h':Option (List Obj)} {H:List Obj} {an:Ann}
  (hg:Less g σ) (hgd : ∀ d,o.dst=some d->g d=σ.get d) (hH : ∀ (i:Nat) (ob:Obj),H[i]?=some ob->σ.heap[i]?=some ob) (hHe:a0F an g o=true->H=σ.heap)
  (h:a0z Ar.std T an σ.n g H o=some (ss,h')):a0f P σ o ss h':=by
 have h0:=h;cases hop:o.op with
 | move x=>exact a7M hg hgd h (.inl hop)
 | assign x=>exact a7M hg hgd h (.inr hop)
 | pick c a b=>exact b1n hg hgd h hop
 | alloc t=>exact b0s hT hg hgd hHe h hop
 | box t x=>exact b3E hT hg hgd hHe h hop
 | build t ps=>exact b0u hT hg hgd h hop
 | buildSlice t n ps=>exact a5i hT hg hgd h hop
 | load t x=>exact b1s hT hg hgd hH h hop hHe
 | store t x y=>exact b0t hT hg hHe h hop
 | binOp op t x y t'=>exact b0n hg hgd h hop
 | unOp op t x =>
   cases op with
   | not=>exact b1o hg hgd h hop
   | _=>simp [a0z,hop] at h
 | convert s t x=>exact a7L hT hg hgd h hop
 | makeFunc fn a b =>
   cases fn with
   | func f=>exact a6G hg hgd h hop
   | _=>simp [a0z,hop] at h
 | slice t x a b c=>exact b0p hT hg hgd h hop
 | fieldAddr t x f=>exact a6c hT hg hgd h hop
 | field t x f=>exact b0o hT hg hgd h hop
 | indexAddr t x i=>exact a6d hT hg hgd h hop
 | extract x i=>exact a7K hg hgd h hop
 | call c =>
   obtain ⟨callee,args,ts⟩:=c;cases callee with
   | builtin b =>
     cases b with
     | len=>exact b3D hT hg hgd h hop
     | append=>exact a8R hT hg hgd h hop
     | _=>simp [a0z,hop] at h
   | _=>simp [a0z,hop] at h
 | _=>simp [a0z,hop] at h
theorem a8b {P:Program} {T:a0j} (hT:TOk P T) {σ:St} {g:Nat->AV} {o:Oper} {ss:a1f} {h':Option (List Obj)} {H:List Obj} {an:Ann}
  (hg:Less g σ) (hgd : ∀ d,o.dst=some d->g d=σ.get d) (hH : ∀ (i:Nat) (ob:Obj),H[i]?=some ob->σ.heap[i]?=some ob) (hHe:a0F an g o=true->H=σ.heap)
  (h:a1n Ar.std T an σ.n g H o=some (ss,h')):a0f P σ o ss h':=by
 unfold a1n at h;split at h
 ·rename_i r hr;subst h;exact b1A hT hg hgd hr
 split at h
 ·rename_i r hr;subst h;exact b4f hT hg hgd hH hHe hr
 split at h
 ·rename_i r hr;subst h;exact b4b hT hg hgd hHe hr
 split at h
 ·rename_i r hr;subst h;exact b3S hT hg hgd hHe hr
 split at h
 ·rename_i r hr;subst h;exact b3Z hT hg hgd hH hHe hr
 split at h
 ·rename_i r hr;subst h;exact b3X hT hg hgd hH hHe hr
 split at h
 ·rename_i r hr;subst h;exact b3Q hT hg hgd hH hHe hr
 split at h
 ·rename_i r hr;subst h;exact b3L hT hg hgd hH hHe hr
 exact b2a hT hg hgd hH hHe h
def Post (m:Nat) (G:Gh) (w:World) (Q:Exit->St->Prop):Exit->Act->World->Prop :=
 fun e a' w' => ∃ σ' G',Rel G' σ' a' w'/\Ext m G w G' w'/\m<=G'.nh/\Q e σ'
theorem Post.ext {m:Nat} {G G1:Gh} {w w1:World} {Q:Exit->St->Prop} (h:Ext m G w G1 w1) {e:Exit} {a:Act} {w':World} (hp:Post m G1 w1 Q e a w'):Post m G w Q e a w':=by
 obtain ⟨σ',G',R,hE,hm,hq⟩:=hp;exact ⟨σ',G',R,h.trans hE,hm,hq⟩
def AWp (P:Program) (m:Nat) (c:Code) (Q:Exit->St->Prop) (σ:St):Prop :=
 ∀ (r:Option Nat) (n:Nat) (G:Gh) (a:Act) (w:World),m<=G.nh->Rel G σ a w->c.wpIn (Wd r) n P (Post m G w Q) a w
def a6S (P:Program) (m:Nat) (c:Code) (Q:Exit->St->Prop) (σ:St):Prop :=
 ∀ (n:Nat) (G:Gh) (a:Act) (w:World),m<=G.nh->Rel G σ a w->c.wpIn (Wd none) n P (Post m G w Q) a w
theorem a6S.of {P:Program} {m:Nat} {c:Code} {Q:Exit->St->Prop} {σ:St} (h:AWp P m c Q σ):a6S P m c Q σ:=fun n G a w hm R=>h none n G a w hm R
def AExit.then (K:St->Prop) (Q:Exit->St->Prop):Exit->St->Prop
 | .normal,σ=>K σ
 | e,σ=>Q e σ
def AExit.block (id:Nat) (Q:Exit->St->Prop):Exit->St->Prop
 | .exit j,σ=>if j=id then Q .normal σ else Q (.exit j) σ
 | e,σ=>Q e σ
section
variable {P:Program} {m:Nat} {Q:Exit->St->Prop} {σ:St}
theorem AWp.mono {c:Code} {Q':Exit->St->Prop} (h:AWp P m c Q σ) (hq : ∀ e σ,Q e σ->Q' e σ):AWp P m c Q' σ:=by
 intro r n G a w hm R;refine wpIn_mono (h r n G a w hm R) ?_;rintro e a' w' ⟨σ',G',R',hE,hm',hQ⟩;exact ⟨σ',G',R',hE,hm',hq _ _ hQ⟩
theorem AWp.skip (h:Q .normal σ):AWp P m .skip Q σ:=fun _ _ G _ _ hm R=>wpIn_skip ⟨σ,G,R,Ext.refl _ _ _,hm,h⟩
theorem AWp.exit {id:Nat} (h:Q (.exit id) σ):AWp P m (.exit id) Q σ:=fun _ _ G _ _ hm R=>wpIn_exit ⟨σ,G,R,Ext.refl _ _ _,hm,h⟩
theorem AWp.ret (h:Q .ret σ):AWp P m .ret Q σ:=fun _ _ G _ _ hm R=>wpIn_ret ⟨σ,G,R,Ext.refl _ _ _,hm,h⟩
theorem AWp.seq {x y:Code} (h:AWp P m x (AExit.then (AWp P m y Q) Q) σ):AWp P m (.seq x y) Q σ:=by
 intro r n G a w hm R;refine wpIn_seq (wpIn_mono (h r n G a w hm R) ?_);rintro e a' w' ⟨σ',G',R',hE,hm',hQ⟩;cases e with
 | normal=>exact wpIn_mono (hQ r n G' a' w' hm' R') (fun e a w hp=>hp.ext hE)
 | _=>exact ⟨σ',G',R',hE,hm',hQ⟩
theorem a6S.mono {c:Code} {Q':Exit->St->Prop} (h:a6S P m c Q σ) (hq : ∀ e σ,Q e σ->Q' e σ):a6S P m c Q' σ:=by
 intro n G a w hm R;refine wpIn_mono (h n G a w hm R) ?_;rintro e a' w' ⟨σ',G',R',hE,hm',hQ⟩;exact ⟨σ',G',R',hE,hm',hq _ _ hQ⟩
theorem a6S.seq {x y:Code} (h:a6S P m x (AExit.then (a6S P m y Q) Q) σ):a6S P m (.seq x y) Q σ:=by
 intro n G a w hm R;refine wpIn_seq (wpIn_mono (h n G a w hm R) ?_);rintro e a' w' ⟨σ',G',R',hE,hm',hQ⟩;cases e with
 | normal=>exact wpIn_mono (hQ n G' a' w' hm' R') (fun e a w hp=>hp.ext hE)
 | _=>exact ⟨σ',G',R',hE,hm',hQ⟩
theorem AWp.cond {c:Operand} {x y:Code} {b:Bool} (hc:(match c with | .tmp t=>σ.get t | .const (.bool b) => .d (.bool b) | _ => .undef) = .d (.bool b)) (h:AWp P m (if b then x else y) Q σ):AWp P m (.cond c x y) Q σ:=by
 intro r n G a w hm R;refine wpIn_cond (t:=b) ?_ (h r n G a w hm R);split at hc
 ·rename_i t;have:=R.slots t;rw [hc] at this;show a.tmps.getD t Go.undef=_;generalize a.tmps.getD t Go.undef=v at this;cases this with | d _ _ _ h=>cases h;rfl
 ·rename_i b';simp at hc;subst hc;rfl
 cases hc
theorem AWp.block {id:Nat} {c:Code} (h:AWp P m c (AExit.block id Q) σ):AWp P m (.block id c) Q σ:=by
 intro r n G a w hm R;refine wpIn_block (wpIn_mono (h r n G a w hm R) ?_);rintro e a' w' ⟨σ',G',R',hE,hm',hQ⟩;cases e with
 | exit j =>
   simp only [AExit.block] at hQ;simp only [Exit.inBlock];split at hQ
   ·rename_i hj;rw [if_pos hj];exact ⟨σ',G',R',hE,hm',hQ⟩
   rename_i hj;rw [if_neg hj];exact ⟨σ',G',R',hE,hm',hQ⟩
 | _=>exact ⟨σ',G',R',hE,hm',hQ⟩
theorem a6S.block {id:Nat} {c:Code} (h:a6S P m c (AExit.block id Q) σ):a6S P m (.block id c) Q σ:=by
 intro n G a w hm R;refine wpIn_block (wpIn_mono (h n G a w hm R) ?_);rintro e a' w' ⟨σ',G',R',hE,hm',hQ⟩;cases e with
 | exit j =>
   simp only [AExit.block] at hQ;simp only [Exit.inBlock];split at hQ
   ·rename_i hj;rw [if_pos hj];exact ⟨σ',G',R',hE,hm',hQ⟩
   rename_i hj;rw [if_neg hj];exact ⟨σ',G',R',hE,hm',hQ⟩
 | _=>exact ⟨σ',G',R',hE,hm',hQ⟩
theorem AWp.loop {ι:Type} {c:Code} (μ:ι->Nat) (S:ι->St) (i0:ι) (h : ∀ i,AWp P m c (AExit.then (fun σ' => ∃ j,μ j<μ i/\σ'=S j) Q) (S i)):AWp P m (.loop c) Q (S i0):=by
 intro r n G a w hm R b k cs hro hb hr;have key : ∀ (q:Nat) (i:ι),μ i=q -> ∀ (G1:Gh) (a:Act) (w1:World),m<=G1.nh->Rel G1 (S i) a w1->Ext m G w G1 w1 ->
   ∃ e a' w',Post m G w Q e a' w'/\ArrivesIn (Machine.fenced P (Wd r)) P (lone (b.atR a (.code c :: .inLoop c::k)) cs w1) b k cs e a' w':=by
  intro q
  induction q using Nat.strongRecOn with
  | _ q ih =>
    intro i hi G1 a w1 hm1 R1 hE1;obtain ⟨e,a₁,w₁,hq,harr⟩:=h i r n G1 a w1 hm1 R1 b (.inLoop c::k) cs hro hb hr;obtain ⟨σ',G',R',hE,hm',hQ⟩:=hq;cases e with
    | normal =>
      obtain ⟨j,hlt,rfl⟩:=hQ;obtain ⟨e₂,a₂,w₂,hq₂,harr₂⟩:=ih (μ j) (hi▸hlt) j rfl G' a₁ w₁ hm' R' (hE1.trans hE);exact ⟨e₂,a₂,w₂,hq₂,.of_steps (StepsIn.trans harr (.one (fenced_calm hb hr rfl) stepR_inLoop)) harr₂⟩
    | exit id=>exact ⟨_,a₁,w₁,⟨σ',G',R',hE1.trans hE,hm',hQ⟩,.pass (x := .inLoop c) rfl (fun _ _ => .inl (by simp)) harr⟩
    | goto l=>exact ⟨_,a₁,w₁,⟨σ',G',R',hE1.trans hE,hm',hQ⟩,.pass (x := .inLoop c) rfl (fun _ _ => .inl (by simp)) harr⟩
    | ret=>exact ⟨_,a₁,w₁,⟨σ',G',R',hE1.trans hE,hm',hQ⟩,.pass (x := .inLoop c) rfl (fun _ _ => .inl (by simp)) harr⟩
    | panic ch=>exact ⟨_,a₁,w₁,⟨σ',G',R',hE1.trans hE,hm',hQ⟩,.pass (x := .inLoop c) rfl (fun _ _ => .inl (by simp)) harr⟩
    | outgrown=>exact ⟨_,a₁,w₁,⟨σ',G',R',hE1.trans hE,hm',hQ⟩,.pass (x := .inLoop c) rfl (fun _ _ => .inl (by simp)) harr⟩
 obtain ⟨e,a',w',hq,harr⟩:=key _ i0 rfl G a w hm R (Ext.refl _ _ _);exact ⟨e,a',w',hq,.of_steps (.one (fenced_calm hb hr rfl) stepR_loop) harr⟩
end
def a1Q (ops:List Oper) (σ:St) (o:Oper):Option Bool :=
 match o.guard with
 | none=>some true
 | some (j,b) =>
   match (ops[j]?).bind (·.dst) with
   | none=>some false
   | some d =>
     match σ.get d with
     | .d (.bool x)=>some (x == b)
     | .tuple []=>some false
     | _=>none
theorem a2m {ops:Array Oper} {σ:St} {o:Oper} {b:Bool} (h:a1Q ops.toList σ o=some b) {G:Gh} {a:Act} {w:World} (R:Rel G σ a w):Region.wanted o (yielded ops a.tmps)=b:=by
 unfold a1Q at h;unfold Region.wanted;cases hgu:o.guard with
 | none=>simp [hgu] at h;simp [h]
 | some p =>
   obtain ⟨j,b'⟩:=p;simp only [hgu] at h;simp only [yielded];cases hd:(ops[j]?).bind (·.dst) with
   | none =>
     have hd':(ops.toList[j]?).bind (·.dst)=none:=by simpa using hd
     simp only [hd'] at h;simp at h;subst h;simp
   | some d =>
     have hd':(ops.toList[j]?).bind (·.dst)=some d:=by simpa using hd
     simp only [hd'] at h;have hrep:=R.slots d;simp only [Option.bind_some];split at h
     ·rename_i x hx;rw [hx] at hrep;simp at h;generalize hv:a.tmps.getD d Go.undef=v at hrep;cases hrep with | d _ _ _ hr =>
      cases hr;have:a.tmps[d]?=some (.bool x):=by
       rw [zp5] at hv;cases he:a.tmps[d]? with
       | none=>rw [he] at hv;simp [Go.undef] at hv
       | some y=>rw [he] at hv;simpa using hv
      simp only [this];rw [<-h];cases x <;> cases b' <;> rfl
     ·rename_i hx;rw [hx] at hrep;simp at h;subst h;generalize hv:a.tmps.getD d Go.undef=v at hrep;cases hrep with | tuple _ _ vs hs _ _ =>
      have : ∀ x,a.tmps[d]?≠some (.bool x):=by
       intro x he;rw [zp5,he] at hv;simp at hv
      split
      ·rename_i x he;exact absurd he (this x)
      simp
     simp at h
def a1I (P:Program) (m:Nat) (ops:Array Oper) (l:List Oper) (Q:Exit->St->Prop) (σ:St):Prop :=
 ∀ (r:Option Nat) (n:Nat) (G:Gh) (a:Act) (w:World) (Q':Exit->Act->World->Prop),m<=G.nh->Rel G σ a w->(∀ e a' w',Post m G w Q e a' w'->Q' e a' w')->wpListIn (Wd r) n P ops Q' l a w
section
variable {P:Program} {m:Nat} {Q:Exit->St->Prop} {σ:St} {ops:Array Oper} {o:Oper} {l:List Oper}
theorem a1I.nil (h:Q .normal σ):a1I P m ops [] Q σ:=fun _ _ G a w _ hm R hQ=>hQ _ a w ⟨σ,G,R,Ext.refl _ _ _,hm,h⟩
theorem a1I.step {ss:a1f} {h':Option (List Obj)} (hw:a1Q ops.toList σ o=some true) (hs:a0f P σ o ss h') (hlen:m<=(σ.upd ss h').heap.length) (h:a1I P m ops l Q (σ.upd ss h')):a1I P m ops (o::l) Q σ:=by
 intro r n G a w Q' hm R hQ;unfold wpListIn;rw [if_pos (a2m hw R)];refine hs r n m G a w Q' _ hm R fun G' a' w' R' hE => ?_;exact h r n G' a' w' Q' (by rw [<-R'.h.nh];exact hlen) R' (fun e a'' w'' hp=>hQ _ _ _ (hp.ext hE))
theorem a1I.skip {d:Nat} (hw:a1Q ops.toList σ o=some false) (hd:o.dst=some d) (hlt:d<σ.n) (hb:(σ.get d).isBox=false) (h:a1I P m ops l Q (σ.upd [(d,.tuple [])] none)):a1I P m ops (o::l) Q σ:=by
 intro r n G a w Q' hm R hQ;unfold wpListIn;rw [a2m hw R,if_neg (by simp)];refine ⟨fun _ _=>trivial,?_⟩;rw [hd];exact h r n G _ w Q' hm (R.put (.tuple _ _ #[] rfl (fun i hi=>by simp at hi) (fun c hc=>by simp at hc)) (fun r off e=>by cases e) hb hlt) hQ
theorem a1I.skip0 (hw:a1Q ops.toList σ o=some false) (hd:o.dst=none) (h:a1I P m ops l Q σ):a1I P m ops (o::l) Q σ:=by
 intro r n G a w Q' hm R hQ;unfold wpListIn;rw [a2m hw R,if_neg (by simp)];refine ⟨fun _ _=>trivial,?_⟩;rw [hd];exact h r n G _ w Q' hm R hQ
theorem AWp.region {id:Nat} (h:a1I P m ops ops.toList Q σ):AWp P m (.region id ops false) Q σ :=
 fun r n G a w hm R=>wpIn_region_list (h r n G a w _ hm R (fun _ _ _ hp=>hp))
end
theorem b0z {A:Ar} {T:a0j} {an:Ann} {n:Nat} {g:Nat->AV} {H H':List Obj} {o:Oper} {ss:a1f} (h:a0z A T an n g H o=some (ss,some H')):H.length<=H'.length:=by
 have hput : ∀ {dst:Option Tmp} {v:AV},Am.put n g dst v≠some (ss,some H'):=by
  intro dst v e;have:=(a0B e).1;cases this
 have hputO : ∀ {dst:Option Tmp} {v:Option AV},a4S n g dst v≠some (ss,some H'):=by
  intro dst v e;obtain ⟨x,_,e⟩:=a1a e;exact hput e
 have hmap : ∀ {dst:Option Tmp} {v:AV} {q:a1f×Option (List Obj)->a1f},Option.map (fun p=>(q p,p.2)) (Am.put n g dst v)≠some (ss,some H'):=by
  intro dst v q e;simp only [Option.map_eq_some_iff] at e;obtain ⟨⟨s1,h1⟩,e1,e2⟩:=e;have:=(a0B e1).1;simp at e2;rw [this] at e2;exact absurd e2.2 (by simp)
 have hmap2 : ∀ {dst:Option Tmp} {v:AV} {q:a1f×Option (List Obj)->a1f} {H1:List Obj},H1.length=H.length->Option.map (fun p=>(q p,some H1)) (Am.put n g dst v)=some (ss,some H')->H.length<=H'.length:=by
  intro dst v q H1 hl e;simp only [Option.map_eq_some_iff] at e;obtain ⟨⟨s1,h1⟩,e1,e2⟩:=e;simp at e2;rw [<-e2.2,hl];exact Nat.le_refl _
 cases hop:o.op <;> simp only [a0z,hop,a9x] at h
 all_goals (repeat' split at h)
 all_goals first
  | (cases h;done)
  | (exact absurd h hput)
  | (exact absurd h hputO)
  | (exact absurd h hmap)
  | (exact hmap2 (by simp) h)
  | (simp at h;done)
  | (simp at h;rw [<-h.2];simp;done)
  | (simp at h;obtain ⟨_,_,_,rfl⟩:=h;simp;done)
theorem b2b {A:Ar} {T:a0j} {an:Ann} {n:Nat} {g:Nat->AV} {H H':List Obj} {o:Oper} {ss:a1f} (h:a3v A T an n g H o=some (some (ss,some H'))):H.length<=H'.length:=by
 unfold a3v at h;split at h
 ·repeat' split at h
  all_goals first
   | (cases h;done)
   | (simp only [zp3] at h;exact absurd (a0B h).1 (by simp))
   | (simp at h;done)
 ·repeat' split at h
  all_goals first
   | (cases h;done)
   | (simp only [zp3] at h;exact absurd (a0B h).1 (by simp))
   | (simp at h;done)
 ·repeat' split at h
  all_goals first
   | (cases h;done)
   | (simp only [zp3] at h;exact absurd (a0B h).1 (by simp))
   | (simp at h;done)
 ·repeat' split at h
  all_goals first
   | (cases h;done)
   | (simp only [zp3] at h;exact absurd (a0B h).1 (by simp))
   | (simp at h;done)
 ·repeat' split at h
  all_goals first
   | (cases h;done)
   | (simp at h;done)
   | (simp only [zp3,Option.map_eq_some_iff] at h
      obtain ⟨p,_,hp⟩:=h;simp only [Prod.mk.injEq,zp3] at hp;rw [<-hp.2];simp)
 ·repeat' split at h
  all_goals first
   | (cases h;done)
   | (simp only [zp3] at h;exact absurd (a0B h).1 (by simp))
   | (simp at h;done)
 ·repeat' split at h
  all_goals first
   | (cases h;done)
   | (simp at h;done)
   | (simp only [zp3,Option.map_eq_some_iff] at h
      obtain ⟨p,_,hp⟩:=h;simp only [Prod.mk.injEq,zp3] at hp;rw [<-hp.2];simp)
 cases h
theorem a6p {A:Ar} {T:a0j} {an:Ann} {n:Nat} {g:Nat->AV} {H H':List Obj} {o:Oper} {ss:a1f} (h:a1n A T an n g H o=some (ss,some H')):H.length<=H'.length:=by
 unfold a1n at h;split at h
 ·rename_i r hr;subst h;exact (a8V hr).elim
 split at h
 ·rename_i r hr;subst h;exact b1Z hr
 split at h
 ·rename_i r hr;subst h;exact b1R hr
 split at h
 ·rename_i r hr;subst h;exact b2b hr
 split at h
 ·rename_i r hr;subst h;exact b1P hr
 split at h
 ·rename_i r hr;subst h;exact b1L hr
 split at h
 ·rename_i r hr;subst h;exact b1B hr
 split at h
 ·rename_i r hr;subst h;exact b1y hr
 exact b0z h
mutual
def AV.inb (m:Nat):AV->Bool
 | .ptr a _ | .map a | .mref a _ _ _ | .mcap a _ _ _ _ | .eptr a _ _ _ | .vptr a _ _ _ _ _ | .yield a=>decide (a<m)
 | .gref a _=>decide (a+2<m)
 | .func _ as bs=>a4n m as&&a4n m bs
 | .agg cs | .tuple cs | .lbox cs=>a4n m cs
 | _=>true
def a4n (m:Nat):List AV->Bool
 | []=>true
 | c::r=>c.inb m&&a4n m r
end
def Obj.inb (m:Nat):Obj->Bool
 | .cells cs=>a4n m cs
 | .loop L=>a4n m (L.env.map (·.2))
 | .jag _ _ (some (_,x))=>x.inb m
 | _=>true
theorem a0Z {m:Nat} : ∀ {cs:List AV},a4n m cs=true -> ∀ (i:Nat) (hi:i<cs.length),cs[i].inb m=true
 | c::r,h,0,_=>by simp [a4n] at h;exact h.1
 | c::r,h,i+1,hi=>by simp [a4n] at h;exact a0Z h.2 i (by simpa using hi)
theorem a5n {m:Nat} : ∀ {e:List (Nat×AV)},a4n m (e.map (·.2))=true -> ∀ t,(a1R e t).inb m=true
 | [],_,_=>rfl
 | (s,v)::r,h,t=>by
   simp [a4n] at h;simp only [a1R];split
   ·exact h.1
   exact a5n (by simpa using h.2) t
structure Sub (G G':Gh) (w w':World) (S:Loc->Prop) (m:Nat):Prop where
 K:KLe G.K G'.K
 O : ∀ (b:Nat) (ℓ:Loc) (f:Nat),S ℓ->G.O b=some (ℓ,f)->G'.O b=some (ℓ,f)/\w'.heap[b]?=w.heap[b]?
 β : ∀ a,a<m->G'.β (.o a)=G.β (.o a)
 nh:m<=G'.nh
theorem RepV.sub {G G':Gh} {w w':World} (hG:Sane G) {m:Nat} {ℓ:Loc} {av:AV} {v:Value} (h:RepV G w ℓ av v) :
  ∀ {S:Loc->Prop},Sub G G' w w' S m->S ℓ->av.inb m=true->av.isLocal=false->RepV G' w' ℓ av v:=by
 have no : ∀ {S:Loc->Prop},Sub G G' w w' S m->Sub G G' w w' (· = .no) m:=fun hp =>
  ⟨hp.K,fun b ℓ f hr hO=>absurd (hr▸rfl) (hG.no b ℓ f hO),hp.β,hp.nh⟩
 induction h with
 | undef ℓ v=>exact fun _ _ _ _ => .undef ℓ v
 | abool ℓ b=>exact fun _ _ _ _ => .abool ℓ b
 | d ℓ x v h=>exact fun hp _ _ _ => .d ℓ x v (h.mono hp.K)
 | ptr ℓ a off ha=>intro S hp _ hb _;simp [AV.inb] at hb;rw [<-hp.β a hb];exact .ptr ℓ a off (Nat.lt_of_lt_of_le hb hp.nh)
 | nilptr ℓ=>exact fun _ _ _ _ => .nilptr ℓ
 | iptr ℓ cs b off vs hK h1 h=>exact fun hp _ _ _ => .iptr ℓ cs b off vs (fun j hj=>hp.K _ _ (hK j hj)) h1 (fun j hj=>(h j hj).mono hp.K)
 | own ℓ k l v h ht =>
   intro S hp hS _ _;refine .own ℓ k l v (h.mono hp.K) ?_;intro a n cap hv hn;obtain ⟨f,c,e,h1,h2,h3,h4⟩:=ht a n cap hv hn;obtain ⟨h5,h6⟩:=hp.O _ _ _ hS h1;exact ⟨f,c,e,h5,h2,h6.trans h3,h4⟩
 | lim ℓ k l v h ht=>exact fun hp _ _ _ => .lim ℓ k l v (h.mono hp.K) ht
 | tail ℓ k l v h ht =>
   intro S hp hS _ _;refine .tail ℓ k l v (h.mono hp.K) ?_;intro a n cap hv hn;obtain ⟨f,c,e,h1,h2,h3,h4⟩:=ht a n cap hv hn;obtain ⟨h5,h6⟩:=hp.O _ _ _ hS h1;exact ⟨f,c,e,h5,h2,h6.trans h3,h4⟩
 | func ℓ f as bs va vb ha hb _ _ hc hc' ih ih' =>
   intro S hp _ hbl _;simp [AV.inb] at hbl;exact .func ℓ f as bs va vb ha hb (fun i hi=>ih i hi (no hp) rfl (a0Z hbl.1 i hi) (hc _ (zp6 hi))) (fun i hi=>ih' i hi (no hp) rfl (a0Z hbl.2 i hi) (hc' _ (zp6 hi))) hc hc'
 | nilfunc ℓ=>exact fun _ _ _ _ => .nilfunc ℓ
 | yield ℓ l hl=>intro S hp _ hb _;simp [AV.inb] at hb;rw [<-hp.β l hb];exact .yield ℓ l (Nat.lt_of_lt_of_le hb hp.nh)
 | map ℓ a ha=>intro S hp _ hb _;simp [AV.inb] at hb;rw [<-hp.β a hb];exact .map ℓ a (Nat.lt_of_lt_of_le hb hp.nh)
 | nilmap ℓ=>exact fun _ _ _ _ => .nilmap ℓ
 | lbox t cs vs e hO hw hs _ hc ih=>intro S _ _ _ hl;simp [AV.isLocal] at hl
 | place ℓ r off=>intro S _ _ _ hl;simp [AV.isLocal] at hl
 | mref ℓ a k lo n b off cap ha h1 h2 h3 h4=>intro S hp _ hb _;simp [AV.inb] at hb;exact .mref ℓ a k lo n b off cap (Nat.lt_of_lt_of_le hb hp.nh) h1 h2 h3 (fun h=>by rw [hp.β a hb];exact h4 h)
 | mcap ℓ a k lo n c b off cap ha h1 h2 h3 h4 h5=>intro S hp _ hb _;simp [AV.inb] at hb;exact .mcap ℓ a k lo n c b off cap (Nat.lt_of_lt_of_le hb hp.nh) h1 h2 h3 h4 (fun h=>by rw [hp.β a hb];exact h5 h)
 | gref ℓ a k p ha hc hq=>intro S hp _ hb _;simp [AV.inb] at hb;rw [<-hp.β _ hb,<-hp.β _ (by omega:a+1<_)] at hc;rw [<-hp.β _ hb,<-hp.β _ (by omega:a+1<_)];exact .gref ℓ a k p (Nat.lt_of_lt_of_le hb hp.nh) hc (fun h=>by rw [hp.β _ (by omega:a<_)];exact hq (by rw [<-hp.β _ (by omega:a+1<_)];exact h))
 | fresh ℓ k l v h=>exact fun hp hS _ _ => .fresh ℓ k l v (h.mono hp.K (fun b hO=>hp.O b ℓ 0 hS hO))
 | junk ℓ v h=>exact fun _ _ _ _ => .junk ℓ v h
 | eptr ℓ a k i j ha hi=>intro S hp _ hb _;simp [AV.inb] at hb;rw [<-hp.β a hb];exact .eptr ℓ a k i j (Nat.lt_of_lt_of_le hb hp.nh) hi
 | vptr ℓ a k i j m z ha hi hz hm=>intro S hp _ hb _;simp [AV.inb] at hb;rw [<-hp.β a hb];exact .vptr ℓ a k i j m z (Nat.lt_of_lt_of_le hb hp.nh) hi hz hm
 | agg ℓ cs vs hs _ hc hf ih =>
   intro S hp _ hbl _;simp [AV.inb] at hbl;exact .agg ℓ cs vs hs (fun i hi=>ih i hi (no hp) rfl (a0Z hbl i hi) (AV.isLocal_of_isCell (hc _ (zp6 hi)))) hc hf
 | tuple ℓ cs vs hs _ hc ih =>
   intro S hp _ hbl _;simp [AV.inb] at hbl;exact .tuple ℓ cs vs hs (fun i hi=>ih i hi (no hp) rfl (a0Z hbl i hi) (hc _ (zp6 hi))) hc
def Obj.three:Obj->Bool
 | .gro .. | .jag .. => true
 | _=>false
def Obj.okAt (m i:Nat) (ob:Obj):Prop:=ob.inb m=true/\(ob.three=true->i+2<m)
theorem a1H.sub {G G':Gh} {w w':World} (hG:Sane G) {i m:Nat} {ob:Obj} (h:a1H G w i ob) (hi:i<m) {S:Loc->Prop} (hp:Sub G G' w w' S m) (hS:S (.o i)) (hSc : ∀ j,S (.oc i j)) (hb:ob.okAt m i):a1H G' w' i ob:=by
 obtain ⟨hb,hbg⟩:=hb;cases ob with
 | cells cs =>
   obtain ⟨vs,e,h1,h2,h3,h4,h5⟩:=h;obtain ⟨h6,h7⟩:=hp.O _ _ _ hS h1;have hβ:=hp.β i hi;rw [<-hβ] at h2 h6 h7;exact ⟨vs,e,h6,h7.trans h2,h3,fun j hj=>(h4 j hj).sub hG hp (hSc j) (a0Z hb j hj) (AV.isLocal_of_isCell (h5 _ (zp6 hj))),h5⟩
 | arr k l =>
   obtain ⟨vs,e,h1,h2,h3,h4,h8,h5⟩:=h;obtain ⟨h6,h7⟩:=hp.O _ _ _ hS h1;have hβ:=hp.β i hi;rw [<-hβ] at h2 h6 h7;exact ⟨vs,e,h6,h7.trans h2,h3,h4,h8,fun j hj=>(h5 j hj).mono hp.K⟩
 | map agg ks es =>
   obtain ⟨ms,clock,h1,h2,h3⟩:=h;obtain ⟨h6,h7⟩:=hp.O _ _ _ hS h1;have hβ:=hp.β i hi;rw [<-hβ] at h2 h6 h7;exact ⟨ms,clock,h6,h7.trans h2,h3.1.mono hp.K,h3.2⟩
 | loop L =>
   obtain ⟨fn,tmps,D,h1,h2,h3,h4,h5⟩:=h;obtain ⟨h6,h7⟩:=hp.O _ _ _ hS h1;have hβ:=hp.β i hi;rw [<-hβ] at h2 h6 h7;refine ⟨fn,tmps,D,h6,h7.trans h2,h3,fun t => ?_,h5⟩;have hl:(a1R L.env t).isLocal=false:=by
    have:=h5 t;generalize a1R L.env t=c at this;cases c <;> first | rfl | (simp [AV.free] at this)
   exact (h4 t).sub hG (⟨hp.K,fun b ℓ f hr hO=>absurd (hr▸rfl) (hG.no b ℓ f hO),hp.β,hp.nh⟩:Sub G G' w w' (· = .no) m) rfl (a5n hb t) hl
 | gro k l =>
   obtain ⟨g0,g1,g2,g3,g4⟩:=h;have g0':=hbg rfl;have b0:=hp.β i hi;have b1:=hp.β (i+1) (by omega);have b2:=hp.β (i+2) g0';refine ⟨Nat.lt_of_lt_of_le g0' hp.nh,by rw [b2];exact g1,by rw [b1];exact g2,g3,fun hc => ?_⟩;rw [b1] at hc;obtain ⟨vs,e,h1,h2,h3,h8,h5⟩:=g4 hc;obtain ⟨h6,h7⟩:=hp.O _ _ _ hS h1;rw [<-b0] at h2 h6 h7;exact ⟨vs,e,h6,h7.trans h2,by rw [b1];exact h3,h8,fun j hj=>(h5 j hj).mono hp.K⟩
 | jag k l o =>
   obtain ⟨g0,g1,g2,g3,go,g4⟩:=h;have g0':=hbg rfl;have b0:=hp.β i hi;have b1:=hp.β (i+1) (by omega);have b2:=hp.β (i+2) g0';refine ⟨Nat.lt_of_lt_of_le g0' hp.nh,by rw [b2];exact g1,by rw [b1];exact g2,g3,go,fun hc => ?_⟩;rw [b1] at hc;obtain ⟨vs,e,h1,h2,h3,h5⟩:=g4 hc;obtain ⟨h6,h7⟩:=hp.O _ _ _ hS h1;rw [<-b0] at h2 h6 h7;refine ⟨vs,e,h6,h7.trans h2,by rw [b1];exact h3,fun j hj => ?_⟩;obtain ⟨l',hx⟩:=g3 _ (zp6 hj);refine (h5 j hj).sub hG hp (hSc j) ?_ (a1V hx go).1;rw [hx];unfold a3p;split
   ·rename_i t x;split
    ·exact hb
    simp [frA,AV.inb]
   simp [frA,AV.inb]
 | dead=>trivial
def a0v (m:Nat):List Obj->Bool
 | []=>true
 | o::r=>o.inb m&&(match o with | .gro .. => Nat.ble 2 r.length | .jag .. => Nat.ble 2 r.length | _=>true)&&a0v m r
def callable (P:Program) (f:FuncId):Bool :=
 match P.funcs[f]? with
 | some fn=>fn.name != "runtime.NumGoroutine" && fn.body.isSome
 | none=>false
def a0n (P:Program) (f:FuncId) (args:List AV) (H:List Obj) (r:AV) (H':List Obj):Prop :=
 callable P f=true/\r.isLocal=false/\r.inb H'.length=true/\a0v H'.length H'=true/\H.length<=H'.length /\ ∀ (n:Nat) (G:Gh) (w:World) (vs:Array Value),vs.size=args.length->(∀ (i:Nat) (hi:i<args.length),RepV G w .no args[i] (vs.getD i Go.undef))->RelH G H w ->
  (∀ b ℓ f,G.O b=some (ℓ,f) -> ∃ i,ℓ.root = .o i) ->
  CallsIn (Wd none) n P f vs w (fun e w' => ∃ v G',e = .returned v/\RepV G' w' .ret r v/\RelH G' H' w'/\Ext H.length G w G' w')
def a5o:Nat->List AV->List (Nat×AV)
 | _,[]=>[]
 | i,v::r=>(i,v)::a5o (i+1) r
theorem a2z : ∀ (args:List AV) (i t:Nat),a1R (a5o i args) t=if i<=t/\t<i+args.length then args.getD (t-i) .undef else .undef
 | [],i,t=>by simp [a5o,a1R]
 | v::r,i,t=>by
   simp only [a5o,a1R,List.length_cons];by_cases h:i=t
   ·subst h;simp
   rw [if_neg h,a2z r (i+1) t];by_cases h2:i+1<=t/\t<i+1+r.length
   ·rw [if_pos h2,if_pos (by omega),show t-i=(t-(i+1))+1 by omega];simp
   rw [if_neg h2,if_neg (by omega)]
def a3O (T:a0j) (σ:St) (own:Bool):ResultVar->Option AV
 | .tmp t=>match σ.get t with
   | .lbox _ | .place .. | .fresh .. => none
   | .lim k l=>some (.d (.list k l))
   | .tail k l=>some (.d (.list k l))
   | v=>some (if own then v else v.copy)
 | .cell t ty=>match σ.get t,T ty with
   | .lbox cs,some td=>a0J td cs 0
   | .ptr i off,some td=>match σ.heap[i]? with
     | some (.cells cs)=>a0J td cs off
     | some (.arr _ l)=>if off=0/\td.isAgg=true/\l.length=td.size/\l.all D.isOne=true then some (.d (.agg l)) else none
     | _=>none
   | _,_=>none
def b4g (T:a0j) (σ:St):List ResultVar->Option AV
 | [x]=>a3O T σ true x
 | l=>(l.mapM (a3O T σ false)).map .tuple
def a6q (T:a0j) (fn:Func) (m:Nat) (r:AV) (H':List Obj):Exit->St->Prop
 | .normal,σ | .ret,σ=>b4g T σ fn.results.toList=some r/\r.inb H'.length=true/\a0v H'.length H'=true/\m<=H'.length /\ ∃ junk,σ.heap=H'++junk
 | _,_=>False
def a1i (m:Nat):Loc->Bool
 | .o i | .oc i _=>decide (i<m)
 | _=>false
def Gh.handed (G:Gh) (m:Nat):Gh :=
 { K:=G.K,β:=G.β,nh:=m
   O:=fun b=>match G.O b with
    | some (ℓ,f)=>if a1i m ℓ then some (ℓ,f) else none
    | none=>none }
theorem a2G {G:Gh} {m b:Nat} {ℓ:Loc} {f:Nat} (h:(G.handed m).O b=some (ℓ,f)):G.O b=some (ℓ,f)/\a1i m ℓ=true:=by
 simp only [Gh.handed] at h;split at h
 ·split at h
  ·rename_i ℓ' f' hO hl;simp at h;obtain ⟨rfl,rfl⟩:=h;exact ⟨hO,hl⟩
  cases h
 cases h
theorem a5p {G:Gh} {m b:Nat} (h : ∀ ℓ f,G.O b=some (ℓ,f)->a1i m ℓ=false):(G.handed m).O b=none:=by
 simp only [Gh.handed];split
 ·rename_i ℓ f hO;rw [h ℓ f hO];rfl
 rfl
theorem a5q {m:Nat} : ∀ {H:List Obj},a0v m H=true -> ∀ (i:Nat) (ob:Obj),H[i]?=some ob->ob.inb m=true
 | o::r,h,0,ob,e=>by simp only [a0v,zp4] at h;simp at e;subst e;exact h.1.1
 | o::r,h,i+1,ob,e=>by simp only [a0v,zp4] at h;exact a5q h.2 i ob (by simpa using e)
theorem a5r {m:Nat} : ∀ {H:List Obj},a0v m H=true -> ∀ (i:Nat) (ob:Obj),H[i]?=some ob->ob.three=true->i+2<H.length
 | o::r,h,0,ob,e,ht=>by
   simp at e;subst e;simp only [a0v,zp4] at h;cases o <;> simp only [Obj.three] at ht <;> first | (cases ht;done) | (have:=Nat.le_of_ble_eq_true h.1.2;simp;omega)
 | o::r,h,i+1,ob,e,ht=>by simp only [a0v,zp4] at h;have:=a5r h.2 i ob (by simpa using e) ht;simp;omega
theorem a2H {m:Nat} {H:List Obj} (h:a0v m H=true) (i:Nat) (ob:Obj) (e:H[i]?=some ob) (hl:H.length<=m:=by first | exact Nat.le_refl _ | (simp;done) | (simp;omega) | omega):ob.okAt m i :=
 ⟨a5q h i ob e,fun ht=>Nat.lt_of_lt_of_le (a5r h i ob e ht) hl⟩
theorem RelH.handed {G:Gh} {H rest:List Obj} {w:World} (R:RelH G (H++rest) w) (hc:a0v H.length H=true):RelH (G.handed H.length) H w:=by
 have hm:H.length<=G.nh:=by rw [<-R.nh];simp
 have hsub:Sub G (G.handed H.length) w w (fun ℓ=>a1i H.length ℓ=true) H.length :=
  ⟨KLe.refl _,fun b ℓ f hl hO=>⟨by simp [Gh.handed,hO,hl],rfl⟩,fun _ _=>rfl,Nat.le_refl _⟩
 refine ⟨⟨fun b ℓ f h=>R.sane.no b ℓ f (a2G h).1⟩,rfl,fun i ob hob => ?_,R.kept,fun b ℓ f h=>R.disj b ℓ f (a2G h).1⟩;have hi:i<H.length:=(zp2.1 hob).1;exact (R.objs i ob (by rw [zp7 hi];exact hob)).sub R.sane hi hsub (by simp [a1i,hi]) (fun j=>by simp [a1i,hi]) (a2H hc i ob hob)
def Gh.foreign (G:Gh) (m b:Nat):Bool :=
 match G.O b with
 | some (ℓ,_) => !a1i m ℓ
 | none=>false
def Gh.back (G G3:Gh) (m k d q:Nat):Gh :=
 { K:=G3.K
   O:=fun b=>if G.foreign m b then G.O b else
    match G3.O b with
    | some (ℓ,f)=>if a1i k ℓ then some (ℓ,f) else if ℓ = .ret then some (.s d,f) else none
    | none=>none
   β:=fun
    | .o i=>if i<k then G3.β (.o i) else G.β (.o i)
    | r=>G.β r
   nh:=k+q }
theorem b4Q {G G3:Gh} {m k d q b:Nat} {ℓ:Loc} {f:Nat} (h:(G.back G3 m k d q).O b=some (ℓ,f)) :
  (G.foreign m b=true/\G.O b=some (ℓ,f))\/(G.foreign m b=false /\ ∃ ℓ',G3.O b=some (ℓ',f)/\((a1i k ℓ'=true/\ℓ=ℓ')\/(ℓ' = .ret/\ℓ = .s d))):=by
 simp only [Gh.back] at h;split at h
 ·rename_i hf;exact .inl ⟨hf,h⟩
 rename_i hf;refine .inr ⟨by simpa using hf,?_⟩;split at h
 ·rename_i ℓ' f' hO;split at h
  ·rename_i hl;simp at h;obtain ⟨rfl,rfl⟩:=h;exact ⟨_,hO,.inl ⟨hl,rfl⟩⟩
  split at h
  ·rename_i hr;simp at h;obtain ⟨rfl,rfl⟩:=h;exact ⟨_,hO,.inr ⟨hr,rfl⟩⟩
  cases h
 cases h
theorem Rel.backO {G G3:Gh} {σ:St} {a:Act} {w w':World} (R:Rel G σ a w) {H rest H':List Obj} (hH:σ.heap=H++rest) (hr:rest=[]\/H'.length=H.length) (hHH:H.length<=H'.length)
  (R3:RelH G3 H' w') (hE:Ext H.length (G.handed H.length) w G3 w') (hin:a0v H'.length H'=true) {d:Option Nat} {r:AV} {v:Value} (hv:RepV G3 w' .ret r v) (hrl:r.isLocal=false) (hri:r.inb H'.length=true)
  (hd : ∀ x,d=some x->x<σ.n/\(σ.get x).isBox=false) :
  Rel (G.back G3 H.length H'.length (d.getD 0) rest.length) { σ with env:=(match d with | some x=>eset σ.env x r | none=>σ.env),heap:=H'++rest } (a.put d v) w' /\
   ∀ m,m<=G.nh->Ext m G w (G.back G3 H.length H'.length (d.getD 0) rest.length) w':=by
 let Gf:=G.back G3 H.length H'.length (d.getD 0) rest.length;have hnh:G.nh=H.length+rest.length:=by rw [<-R.h.nh,hH];simp

 have hfor : ∀ b ℓ f,G.O b=some (ℓ,f)->a1i H.length ℓ=false->Gf.O b=some (ℓ,f)/\w'.heap[b]?=w.heap[b]?/\G3.O b=none:=by
  intro b ℓ f hO hl;have hc:(G.handed H.length).O b=none:=a5p fun ℓ' f' h'=>by rw [hO] at h';simp at h';obtain ⟨rfl,_⟩:=h';exact hl
  obtain ⟨h1,h2⟩:=hE.others b (R.h.disj b ℓ f hO).1 hc;refine ⟨?_,h1,h2⟩;have:G.foreign H.length b=true:=by simp [Gh.foreign,hO,hl]
  simp only [Gf,Gh.back,this,if_true,hO]

 have hback : ∀ b ℓ f,G3.O b=some (ℓ,f)->(a1i H'.length ℓ=true->Gf.O b=some (ℓ,f))/\(ℓ = .ret->Gf.O b=some (.s (d.getD 0),f)):=by
  intro b ℓ f hO;have hnf:G.foreign H.length b=false:=by
   cases hG:G.O b with
   | none=>simp [Gh.foreign,hG]
   | some p =>
     obtain ⟨ℓ',f'⟩:=p;cases hl:a1i H.length ℓ' with
     | true=>simp [Gh.foreign,hG,hl]
     | false=>rw [(hfor b ℓ' f' hG hl).2.2] at hO;cases hO
  constructor
  ·intro hl;simp only [Gf,Gh.back,hnf,hO];simp [hl]
  rintro rfl;simp only [Gf,Gh.back,hnf,hO];simp [a1i]
 have hβ : ∀ i,i<G.nh->Gf.β (.o i)=G.β (.o i):=by
  intro i hi;simp only [Gf,Gh.back];split
  ·rename_i hk;rcases Nat.lt_or_ge i H.length with h | h
   ·exact hE.β i h
   rcases hr with rfl | hr
   ·simp at hnh;omega
   omega
  rfl
 have hp1:Pres G Gf w w' (fun ℓ=>a1i H.length ℓ=false) :=
  ⟨hE.K,fun b ℓ f hl hO=>⟨(hfor b ℓ f hO hl).1,(hfor b ℓ f hO hl).2.1⟩,hβ,by simp only [Gf,Gh.back];omega⟩
 have hp2:Sub G3 Gf w' w' (fun ℓ=>a1i H'.length ℓ=true) H'.length :=
  ⟨KLe.refl _,fun b ℓ f hl hO=>⟨(hback b ℓ f hO).1 hl,rfl⟩,fun i hi=>by simp [Gf,Gh.back,hi],by simp [Gf,Gh.back]⟩
 have hslots : ∀ t,RepV Gf w' (.s t) (σ.get t) (a.tmps.getD t Go.undef):=fun t=>(R.slots t).pres R.h.sane hp1 rfl (fun _ _ _=>rfl) (fun _ _ _=>⟨rfl,fun j=>rfl⟩);refine ⟨⟨⟨⟨fun b ℓ f h => ?_⟩,by simp [Gf,Gh.back],fun i ob hob => ?_,R3.kept,fun b ℓ f h => ?_⟩,by cases d <;> simpa [Act.put] using R.size,?_,?_,?_⟩,fun m hm => ?_⟩
 ·rcases b4Q h with ⟨_,hO⟩ | ⟨_,ℓ',hO,⟨hl,rfl⟩ | ⟨rfl,rfl⟩⟩
  ·exact R.h.sane.no b ℓ f hO
  ·exact R3.sane.no b ℓ f hO
  simp [Loc.root]
 ·rcases Nat.lt_or_ge i H'.length with hi | hi
  ·simp only [zp7 hi] at hob;exact (R3.objs i ob hob).sub R3.sane hi hp2 (by simp [a1i,hi]) (fun j=>by simp [a1i,hi]) (a2H hin i ob hob)
  simp only [zp8 hi] at hob;have hlen:H'.length=H.length:=by
   rcases hr with rfl | hr
   ·simp at hob
   exact hr
  have hob':σ.heap[i]?=some ob:=by rw [hH,zp8 (by omega),<-hlen];exact hob
  exact (R.h.objs i ob hob').pres R.h.sane (by rw [<-R.h.nh];exact (zp2.1 hob').1) hp1 (by simp [a1i];omega) (fun j=>by simp [a1i];omega)
 ·rcases b4Q h with ⟨hf,hO⟩ | ⟨_,ℓ',hO,_⟩
  ·obtain ⟨h1,h2⟩:=R.h.disj b ℓ f hO;refine ⟨Nat.lt_of_lt_of_le h1 hE.size,fun j hj => ?_⟩;have hl:a1i H.length ℓ=false:=by simpa [Gh.foreign,hO] using hf
   cases hK:Gf.K ⟨b,j,none⟩ with
   | none=>rfl
   | some x =>
     rcases hE.new ⟨b,j,none⟩ x hK with h3 | ⟨p,h3⟩ | h3
     ·rw [show (G.handed H.length).K=G.K from rfl,h2 j hj] at h3;cases h3
     ·obtain ⟨ℓ',f'⟩:=p;obtain ⟨h4,h5⟩:=a2G h3;rw [hO] at h4;simp at h4;obtain ⟨rfl,_⟩:=h4;rw [hl] at h5;cases h5
     simp at h3;omega
  exact R3.disj b ℓ' f hO
 ·intro t;cases d with
  | none=>exact hslots t
  | some d =>
  obtain ⟨hlt,hb⟩:=hd d rfl;have hd':d<a.tmps.size:=by rw [R.size];exact hlt
  simp only [Act.put,a1b _ _ _ _ hd',St.get,a0e];split
  ·rename_i e;subst e;by_cases hfree:r.free=true
   ·exact ((hv.anywhere hfree .no).sub R3.sane (⟨KLe.refl _,fun b ℓ f hl hO=>absurd (hl▸rfl) (R3.sane.no b ℓ f hO),hp2.β,hp2.nh⟩:Sub G3 Gf w' w' (fun ℓ=>ℓ = .no) H'.length) rfl hri hrl).anywhere hfree _
   cases r <;> first | (simp [AV.free] at hfree;done) | (simp [AV.isLocal] at hrl;done) | skip
   ·cases hv with | own _ k l v h ht =>
    refine .own _ _ _ _ h ?_;intro a' n cap e hn;obtain ⟨f,c,e',h1,h2,h3,h4⟩:=ht a' n cap e hn;exact ⟨f,c,e',(hback _ _ _ h1).2 rfl,h2,h3,h4⟩
   ·cases hv with | lim _ k l v h ht =>
    exact .lim _ _ _ _ h ht
   ·cases hv with | tail _ k l v h ht =>
    refine .tail _ _ _ _ h ?_;intro a' n cap e hn;obtain ⟨f,c,e',h1,h2,h3,h4⟩:=ht a' n cap e hn;exact ⟨f,c,e',(hback _ _ _ h1).2 rfl,h2,h3,h4⟩
   cases hv with | fresh _ k l v h =>
   exact .fresh _ _ _ _ (h.mono (KLe.refl _) (fun b hO=>⟨(hback _ _ _ hO).2 rfl,rfl⟩))
  exact hslots t
 ·intro t r' off ht;cases d with
  | none=>exact R.places t r' off ht
  | some d =>
  obtain ⟨hlt,hb⟩:=hd d rfl;simp only [St.get,a0e] at ht ⊢;split at ht
  ·subst ht;simp [AV.isLocal] at hrl
  obtain ⟨cs,hcs⟩:=R.places t r' off ht;refine ⟨cs,?_⟩;split
  ·rename_i e;subst e;rw [hcs] at hb;simp [AV.isBox] at hb
  exact hcs
 ·have hdf:(a.put d v).defers=a.defers:=by cases d <;> rfl
  rw [hdf];refine ⟨R.df.1,fun x hx => ?_⟩;obtain ⟨r0,h1,h2,h3⟩:=R.df.2 x hx;obtain ⟨h4,h5,_⟩:=hfor _ _ _ h2 rfl;exact ⟨r0,h1,h4,h5.trans h3⟩
 refine ⟨hE.K,fun x v hx => ?_,fun b hb hO => ?_,hE.size,fun i hi=>hβ i (by omega),hE.io⟩
 ·rcases hE.new x v hx with h | ⟨p,h⟩ | h
  ·exact .inl h
  ·obtain ⟨ℓ,f⟩:=p;exact .inr (.inl ⟨_,(a2G h).1⟩)
  exact .inr (.inr h)
 have hc:(G.handed H.length).O b=none:=a5p fun ℓ f h=>by rw [hO] at h;cases h
 obtain ⟨h1,h2⟩:=hE.others b hb hc;refine ⟨h1,?_⟩;have:G.foreign H.length b=false:=by simp [Gh.foreign,hO]
 simp [Gh.back,this,h2]
theorem Rel.back {G G3:Gh} {σ:St} {a:Act} {w w':World} (R:Rel G σ a w) {H rest H':List Obj} (hH:σ.heap=H++rest) (hr:rest=[]\/H'.length=H.length) (hHH:H.length<=H'.length)
  (R3:RelH G3 H' w') (hE:Ext H.length (G.handed H.length) w G3 w') (hin:a0v H'.length H'=true) {d:Nat} {r:AV} {v:Value} (hv:RepV G3 w' .ret r v) (hrl:r.isLocal=false) (hri:r.inb H'.length=true)
  (hlt:d<σ.n) (hb:(σ.get d).isBox=false) :
  Rel (G.back G3 H.length H'.length d rest.length) { σ with env:=eset σ.env d r,heap:=H'++rest } (a.put (some d) v) w' /\
   ∀ m,m<=G.nh->Ext m G w (G.back G3 H.length H'.length d rest.length) w':=by
 have:=R.backO (d:=some d) hH hr hHH R3 hE hin hv hrl hri (fun x e=>by cases e;exact ⟨hlt,hb⟩);exact this
theorem a4o {r:Option Nat} {n:Nat} {P:Program} {f:FuncId} {args:Array Value} {w:World} {R:Ending->World->Prop} (h:CallsIn (Wd none) n P f args w R):CallsIn (Wd r) n P f args w R:=h
def a2c (T:a0j) (σ:St) (o:Oper):Option (FuncId×List AV) :=
 match o.op with
 | .call { callee := .value x,args,argTypes } =>
   match (match x with | .func f=>some (f,[],[]) | .tmp t=>(match σ.get t with | .func f as bs=>some (f,as,bs) | _=>none) | _=>none),((args.toList.zip argTypes.toList).mapM fun p=>opv T σ.get p.2 p.1) with
   | some (f,as,bs),some vs=>if args.size=argTypes.size then some (f,as++vs.map AV.copy++bs) else none
   | _,_=>none
 | .call { callee := .invoke (.tmp t) name,args,argTypes } =>
   match σ.get t with
   | .d (.iface z) =>
     match T z.toNat with
     | some { u := .meth ms,.. } =>
       match b1e ms name,((args.toList.zip argTypes.toList).mapM fun p=>opv T σ.get p.2 p.1) with
       | some f,some vs=>if args.size=argTypes.size/\0<=z then some (f,[.d (.agg [])]++vs.map AV.copy) else none
       | _,_=>none
     | _=>none
   | _=>none
 | _=>none
theorem mapM_some {α β:Type} {f:α->Option β} : ∀ {xs:List α} {ys:List β},xs.mapM f=some ys->ys.length=xs.length /\ ∀ (i:Nat) (hi:i<xs.length) (hi':i<ys.length),f xs[i]=some ys[i]
 | [],ys,h=>by simp at h;subst h;exact ⟨rfl,fun i hi=>by simp at hi⟩
 | x::r,ys,h=>by
   simp only [List.mapM_cons,Option.bind_eq_bind,Option.bind_eq_some_iff,Option.pure_def,zp3] at h;obtain ⟨v,hv,l',hl',rfl⟩:=h;obtain ⟨e1,e2⟩:=mapM_some hl';refine ⟨by simp [e1],fun i hi hi' => ?_⟩;cases i with
   | zero=>exact hv
   | succ i=>exact e2 i (by simpa using hi) (by simpa using hi')
theorem a4p {G:Gh} {w:World} {A B:List AV} {va vb:Array Value} (ha:va.size=A.length) (hb:vb.size=B.length) (h1 : ∀ (i:Nat) (hi:i<A.length),RepV G w .no A[i] (va.getD i Go.undef))
  (h2 : ∀ (i:Nat) (hi:i<B.length),RepV G w .no B[i] (vb.getD i Go.undef)):(va++vb).size=(A++B).length /\ ∀ (i:Nat) (hi:i<(A++B).length),RepV G w .no (A++B)[i] ((va++vb).getD i Go.undef):=by
 refine ⟨by simp [ha,hb],fun i hi => ?_⟩;simp at hi;by_cases c:i<A.length
 ·rw [List.getElem_append_left c];simpa [zp5,Array.getElem?_append_left (show i<va.size by omega)] using h1 i c
 rw [List.getElem_append_right (by omega)];have:=h2 (i-A.length) (by omega);simpa [zp5,Array.getElem?_append_right (show va.size<=i by omega),ha] using this
theorem a6T (σ:St):Less σ.get σ:=fun _ => .inl rfl
section
variable {P:Program} {T:a0j} {m:Nat} {Q:Exit->St->Prop} {σ:St} {ops:Array Oper} {o:Oper} {l:List Oper}
theorem a5s (hT:TOk P T) {f:FuncId} {args:List AV} (h:a2c T σ o=some (f,args)) (hc:callable P f=true) {G:Gh} {a:Act} {w:World} (R:Rel G σ a w) :
  (∀ c,o.op ≠ .defer c) /\ ∃ vs:Array Value,(execOp a.eval o).run P w = .ok (.enter f vs) w/\vs.size=args.length /\ ∀ (i:Nat) (hi:i<args.length),RepV G w .no args[i] (vs.getD i Go.undef):=by
 unfold a2c at h;split at h
 ·rename_i x xs ts hop;refine ⟨by simp [hop],?_⟩;split at h
  ·rename_i f' as bs vs hfn hvs;split at h
   ·rename_i hsz;simp at h;obtain ⟨rfl,rfl⟩:=h;obtain ⟨e1,e2⟩:=mapM_some hvs

    have hfv : ∃ va vb:Array Value,a.eval x = .func (.func f') va vb/\va.size=as.length/\vb.size=bs.length /\
      (∀ (i:Nat) (hi:i<as.length),RepV G w .no as[i] (va.getD i Go.undef)) /\ ∀ (i:Nat) (hi:i<bs.length),RepV G w .no bs[i] (vb.getD i Go.undef):=by
     cases x with
     | func q =>
       simp at hfn;obtain ⟨rfl,rfl,rfl⟩:=hfn;exact ⟨#[],#[],rfl,rfl,rfl,fun i hi=>by simp at hi,fun i hi=>by simp at hi⟩
     | tmp t =>
       simp only at hfn;split at hfn
       ·rename_i f'' as' bs' hg;simp at hfn;obtain ⟨rfl,rfl,rfl⟩:=hfn;have hrep:=R.slots t;rw [hg] at hrep;show ∃ va vb:Array Value,a.tmps.getD t Go.undef=_/\_;generalize a.tmps.getD t Go.undef=v at hrep;cases hrep with | func _ _ _ _ va vb ha hb h1 h2 _ _=>exact ⟨va,vb,rfl,ha,hb,h1,h2⟩
       cases hfn
     | _=>simp at hfn
    obtain ⟨va,vb,hx,ha,hb,h1,h2⟩:=hfv;have hcall:(callFunc f' (va++xs.map a.eval++vb)).run P w = .ok (.enter f' (va++xs.map a.eval++vb)) w:=by
     unfold callable at hc;unfold callFunc;simp only [Sem.run_bind,run_program,Result.andThen_ok];split at hc
     ·rename_i fn hfn';simp at hc;rw [hfn'];simp [hc.1,Option.isSome_iff_ne_none.1 hc.2]
     cases hc
    have hlv:(xs.map a.eval).size=(vs.map AV.copy).length:=by simp [e1];omega
    have hmid : ∀ (i:Nat) (hi:i<(vs.map AV.copy).length),RepV G w .no (vs.map AV.copy)[i] ((xs.map a.eval).getD i Go.undef):=by
     intro i hi;simp at hi;have hz:i<(xs.toList.zip ts.toList).length:=by omega
     have:=(a0P (a6T σ) R (e2 i hz hi) .no).1.copy .no;have hxs:i<xs.size:=by simp at hz;omega
     simpa [zp5,hxs] using this
    obtain ⟨k1,k2⟩:=a4p ha hlv h1 hmid;obtain ⟨k3,k4⟩:=a4p k1 hb k2 h2;have hrun:(execOp a.eval o).run P w = .ok (.enter f' (va++xs.map a.eval++vb)) w:=by
     simp only [execOp,hop,Sem.run_bind,resolve,hx,Deferred.ofValue,Sem.run_pure,Result.andThen_ok,invoke];exact hcall
    refine ⟨va++xs.map a.eval++vb,hrun,?_⟩;rw [List.append_assoc] at k3 k4;exact ⟨k3,k4⟩
   cases h
  cases h
 ·rename_i t name xs ts hop;refine ⟨by simp [hop],?_⟩;split at h
  ·rename_i z hg;split at h
   ·rename_i sz ms zz hTz;split at h
    ·rename_i f' vs hml hvs;split at h
     ·rename_i hsz;simp only [zp3,Prod.mk.injEq] at h;obtain ⟨rfl,rfl⟩:=h;obtain ⟨e1,e2⟩:=mapM_some hvs;obtain ⟨hsz,hz0⟩:=hsz;have hx:a.eval (.tmp t) = .iface z.toNat (.agg #[]):=by
       have hrep:=R.slots t;rw [hg] at hrep;show a.tmps.getD t Go.undef=_;generalize a.tmps.getD t Go.undef=v at hrep;cases hrep with | d _ _ _ hd =>
       cases hd with | iface z =>
       unfold a1A;rw [if_neg (by omega)]
      have hcall:(callFunc f' (#[.agg #[]]++xs.map a.eval)).run P w = .ok (.enter f' (#[.agg #[]]++xs.map a.eval)) w:=by
       unfold callable at hc;unfold callFunc;simp only [Sem.run_bind,run_program,Result.andThen_ok];split at hc
       ·rename_i fn hfn';simp at hc;rw [hfn'];simp [hc.1,Option.isSome_iff_ne_none.1 hc.2]
       cases hc
      have hlv:(xs.map a.eval).size=(vs.map AV.copy).length:=by simp [e1];omega
      have hmid : ∀ (i:Nat) (hi:i<(vs.map AV.copy).length),RepV G w .no (vs.map AV.copy)[i] ((xs.map a.eval).getD i Go.undef):=by
       intro i hi;simp at hi;have hz:i<(xs.toList.zip ts.toList).length:=by omega
       have:=(a0P (a6T σ) R (e2 i hz hi) .no).1.copy .no;have hxs:i<xs.size:=by simp at hz;omega
       simpa [zp5,hxs] using this
      have h0 : ∀ (i:Nat) (hi:i<[AV.d (.agg [])].length),RepV G w .no [AV.d (.agg [])][i] ((#[Value.agg #[]]:Array Value).getD i Go.undef):=by
       intro i hi
       match i,hi with
       | 0,_=>exact .d _ _ _ (.agg [] #[] rfl (fun i hi=>by simp at hi) (fun v hv=>by simp at hv))
      obtain ⟨k1,k2⟩:=a4p (A:=[AV.d (.agg [])]) (va := #[Value.agg #[]]) rfl hlv h0 hmid;refine ⟨#[.agg #[]]++xs.map a.eval,?_,k1,k2⟩;have hmeth:=fun n=>hT.method hTz hml n w;have hx2:(#[a.eval (.tmp t)]++xs.map a.eval)[0]?=some (.iface z.toNat (.agg #[])):=by rw [hx,Array.getElem?_append_left (by simp)];rfl
      have hx3:(#[a.eval (.tmp t)]++xs.map a.eval).extract 1 (#[a.eval (.tmp t)]++xs.map a.eval).size=xs.map a.eval:=by simp
      have hd : ∀ k,(Go.method (k+Made.depth) z.toNat (.agg #[]) name).run P w = .ok (f',.agg #[]) w:=fun k=>hmeth (k+Made.depth-1);simp only [execOp,hop,Sem.run_bind,resolve,Sem.run_pure,Result.andThen_ok,invoke,hx2,hx3,callMethod,run_program,hd];exact hcall
     cases h
    cases h
   cases h
  cases h
 cases h
theorem a1I.call (hT:TOk P T) {f:FuncId} {args:List AV} {H rest H':List Obj} {r:AV} {d:Nat} (hw:a1Q ops.toList σ o=some true) (hcall:a2c T σ o=some (f,args)) (hH:σ.heap=H++rest)
  (hr:rest=[]\/H'.length=H.length) (hin:a0v H.length H=true) (hargs:a4n H.length args=true) (hd:o.dst=some d) (hlt:d<σ.n) (hb:(σ.get d).isBox=false)
  (hfr:args.all AV.free=true) (hc:a0n P f args H r H') (h:a1I P m ops l Q { σ with env:=eset σ.env d r,heap:=H'++rest }):a1I P m ops (o::l) Q σ:=by
 intro rr n G a w Q' hm' R hQ;unfold wpListIn;rw [if_pos (a2m hw R)];obtain ⟨hcb,hrl,hri,hin',hHH,hcc⟩:=hc;obtain ⟨hnd,vs,hrun,hvs,hrep⟩:=a5s hT hcall hcb R;have RH:RelH G (H++rest) w:=by rw [<-hH];exact R.h
 have hRh:=RH.handed hin;have hfr' : ∀ c∈args,c.free=true:=by simpa using hfr
 have hsub:Sub G (G.handed H.length) w w (fun ℓ=>ℓ = .no) H.length :=
  ⟨KLe.refl _,fun b ℓ f hl hO=>absurd (hl▸rfl) (R.h.sane.no b ℓ f hO),fun _ _=>rfl,Nat.le_refl _⟩
 refine ⟨fun _ _=>trivial,?_⟩;rw [Oper.semAt_eq _ _ _ hnd,hrun];refine ⟨fun hh=>by simp [Wd] at hh,?_⟩;refine CallsIn.mono (a4o (hcc (n-1) (G.handed H.length) w vs hvs (fun i hi => ?_) hRh (fun b ℓ f hO => ?_))) ?_
 ·exact (hrep i hi).sub R.h.sane hsub rfl (a0Z hargs i hi) (AV.free_isLocal (hfr' _ (zp6 hi)))
 ·have:=(a2G hO).2;cases ℓ <;> simp [a1i] at this
  ·rename_i i;exact ⟨i,rfl⟩
  rename_i i j;exact ⟨i,rfl⟩
 rintro e w' ⟨v,G3,rfl,hv,R3,hE⟩;obtain ⟨R',hext⟩:=R.back hH hr hHH R3 hE hin' hv hrl hri hlt hb;show wpListIn _ _ _ _ _ _ (a.put o.dst v) w';rw [hd];refine h rr n _ _ w' Q' ?_ R' (fun e a' w'' hp=>hQ e a' w'' (hp.ext (hext m hm')));have hnh:G.nh=H.length+rest.length:=by rw [<-R.h.nh,hH];simp
 simp [Gh.back];omega
end
def b7u (G:Gh) (w w':World):Prop:=w'.heap.size=w.heap.size/\(∀ b,G.O b≠some (.df,0)->w'.heap[b]?=w.heap[b]?)/\w'.os=w.os/\w'.output=w.output/\(∀ a,a.block<w.heap.size->w'.frozen? a=w.frozen? a)/\w'.tape=w.tape/\w.drawn<=w'.drawn
theorem a4B {P:Program} {n:Nat} {fn:Func} {tmps:Array Value} {R:Ending->World->Prop} {G:Gh} : ∀ (ds:List Deferred) (w:World),b7l G ds w ->
  (∀ w',b7u G w w' -> ∃ v,(results fn tmps).run P w' = .ok v w'/\R (.returned v) w')->LeavesInM (Wd none) n P fn tmps R ds .returning w
 | [],w,_,h=>by
   obtain ⟨v,h1,h2⟩:=h w ⟨rfl,fun _ _=>rfl,rfl,rfl,fun _ _=>rfl,rfl,Nat.le_refl _⟩;exact ⟨v,h1,h2⟩
 | d::ds,w,hF,h=>by
   obtain ⟨hnd,hall⟩:=hF;obtain ⟨r,rfl,hO,hw⟩:=hall d (by simp);have hlt:r<w.heap.size:=(Array.getElem?_eq_some_iff.1 hw).1;let w1:World:={ w with heap:=w.heap.setIfInBounds r (.deferred none) }
   have hother : ∀ b,b≠r->w1.heap[b]?=w.heap[b]?:=by
    intro b hb;show (w.heap.setIfInBounds r _)[b]?=_;rw [Array.getElem?_setIfInBounds_ne (Ne.symm hb)]
   have htake:(Instr.takeDeferred r).run P w = .ok [] w1:=by
    simp [Instr.takeDeferred,getObj,setObj,Sem.run,hw,w1]
   refine ⟨by simp,.inl ⟨r,w1,rfl,htake,?_⟩⟩;simp at hnd;refine a4B (G:=G) ds w1 ⟨hnd.2,fun d hd => ?_⟩ ?_
   ·obtain ⟨r',rfl,h1,h2⟩:=hall d (by simp [hd]);refine ⟨r',rfl,h1,?_⟩;rw [hother r' ?_];exact h2;rintro rfl;exact hnd.1 _ hd rfl
   rintro w' ⟨hs,hb,hio1,hio2,hio3,hio4,hio5⟩;refine h w' ⟨by rw [hs];simp [w1],fun b hne => ?_,hio1,hio2,fun a ha=>(hio3 a (by simpa [w1] using ha)).trans ?_,hio4,hio5⟩
   ·rw [hb b hne,hother b ?_];rintro rfl;exact hne hO
   by_cases hab:a.block=r
   ·unfold World.frozen?;rw [hab,hw,show w1.heap[r]?=some (.deferred none) by simp [w1,hlt]]
   unfold World.frozen?;rw [hother _ hab]
def a3s (tmps:Array Value):ResultVar->Sem Value
 | .tmp t=>pure (tmps.getD t Go.undef)
 | .cell a t=>do loadVar t (<-asAddr (tmps.getD a Go.undef))
theorem a8c {P:Program} {T:a0j} (hT:TOk P T) {G:Gh} {σ:St} {a:Act} {w:World} (R:Rel G σ a w) {own:Bool} {x:ResultVar} {av:AV} (h:a3O T σ own x=some av) :
  ∃ v,(a3s a.tmps x).run P w = .ok v w/\av.isLocal=false/\((av.free=true /\ ∀ ℓ,RepV G w ℓ av v) \/ ∃ t k l,own=true/\av = .own k l/\RepV G w (.s t) (.own k l) v):=by
 cases x with
 | tmp t =>
   simp only [a3O] at h;have hrep:=R.slots t;refine ⟨a.tmps.getD t Go.undef,by simp [a3s],?_⟩;have key : ∀ v,σ.get t=v->v.isLocal=false->(∀ k l,v ≠ .lim k l)->(∀ k l,v ≠ .tail k l)->(∀ k l,v ≠ .fresh k l)->some (if own then v else v.copy)=some av->av.isLocal=false/\((av.free=true /\ ∀ ℓ,RepV G w ℓ av (a.tmps.getD t Go.undef)) \/ ∃ t' k l,own=true/\av = .own k l/\RepV G w (.s t') (.own k l) (a.tmps.getD t Go.undef)):=by
    intro v hv hl hnl hnt hnf he;rw [hv] at hrep;simp at he;subst he;cases own with
    | false=>exact ⟨AV.copy_isLocal _,.inl ⟨AV.copy_free _,fun ℓ=>hrep.copy ℓ⟩⟩
    | true =>
      refine ⟨hl,?_⟩;by_cases hf:v.free=true
      ·exact .inl ⟨hf,fun ℓ=>hrep.anywhere hf ℓ⟩
      cases v <;> first | (simp [AV.free] at hf;done) | (simp [AV.isLocal] at hl;done) | (exact absurd rfl (hnl _ _)) | (exact absurd rfl (hnt _ _)) | (exact absurd rfl (hnf _ _)) | skip
      exact .inr ⟨t,_,_,rfl,rfl,hrep⟩
   split at h
   ·cases h
   ·cases h
   ·cases h
   ·rename_i k l hgl;cases h;rw [hgl] at hrep;exact ⟨rfl,.inl ⟨rfl,fun ℓ=>hrep.copy ℓ⟩⟩
   ·rename_i k l hgl;cases h;rw [hgl] at hrep;exact ⟨rfl,.inl ⟨rfl,fun ℓ=>hrep.copy ℓ⟩⟩
   rename_i v h1 h2 h5 h3 h4;refine key _ rfl ?_ (fun k l e=>h3 k l e) (fun k l e=>h4 k l e) (fun k l e=>h5 k l e) h;generalize σ.get t=c at h1 h2;cases c <;> first | rfl | (exact absurd rfl (h1 _)) | (exact absurd rfl (h2 _ _))
 | cell t ty =>
   simp only [a3O] at h;split at h
   ·rename_i cs td hcs htd;obtain ⟨vs,e,hO,hw,hs,hh,hc,hat⟩:=a4k R hcs;obtain ⟨v,hv,hfree,hrep⟩:=a3f hT htd R (A := .slot t 0 cs) (b:=G.β (.s t)) (off:=0) ⟨hcs,rfl⟩ h;exact ⟨v,by simp [a3s,hat,asAddr,hv],AV.free_isLocal hfree,.inl ⟨hfree,hrep⟩⟩
   ·rename_i i off td hcs htd;split at h
    ·rename_i cs hob;have hsl:=R.slots t;rw [hcs] at hsl;generalize hat:a.tmps.getD t Go.undef=v0 at hsl;cases hsl with | ptr _ _ _ hi =>
     obtain ⟨v,hv,hfree,hrep⟩:=a3f hT htd R (A := .obj i off) (b:=G.β (.o i)) (off:=off) ⟨hi,rfl⟩ ⟨_,cs,hob,rfl,h⟩;exact ⟨v,by simp [a3s,hat,asAddr,hv],AV.free_isLocal hfree,.inl ⟨hfree,hrep⟩⟩
    ·rename_i k l hob;split at h
     ·rename_i hc;obtain ⟨rfl,hagg,hlen,hone⟩:=hc;cases h;have hsl:=R.slots t;rw [hcs] at hsl;generalize hat:a.tmps.getD t Go.undef=v0 at hsl;cases hsl with | ptr _ _ _ hi =>
      have hfl:D.flat l=l:=a4T (List.all_eq_true.1 hone);have hrd:a0J td ((D.flat l).map .d) 0=some (.d (.agg l)):=by
       have hdo : ∀ m:List D,a0L (m.map .d)=some m:=by
        intro m
        induction m with
        | nil=>rfl
        | cons x r ih=>simp [a0L,ih]
       unfold a0J cut;rw [hfl,if_pos (by simp [hlen])];simp only [hagg,if_true];rw [show (l.map AV.d).drop 0=l.map AV.d from rfl,List.take_of_length_le (by simp [hlen])];unfold a5a;rw [hdo]
      obtain ⟨v,hv,hfree,hrep⟩:=a3f hT htd R (A := .obj i 0) (b:=G.β (.o i)) (off:=0) ⟨hi,rfl⟩ ⟨_,_,hob,rfl,hrd⟩;exact ⟨v,by simp [a3s,hat,asAddr,hv],AV.free_isLocal hfree,.inl ⟨hfree,hrep⟩⟩
     cases h
    cases h
   cases h
theorem b0A (fn:Func) (tmps:Array Value):results fn tmps=(do
  let vs <-fn.results.mapM (a3s tmps)
  pure (if h:vs.size=1 then vs[0] else .tuple vs)):=by
 unfold results a3s
 rfl
theorem b2c {P:Program} {T:a0j} (hT:TOk P T) {G:Gh} {σ:St} {a:Act} {w:World} (R:Rel G σ a w) : ∀ (l:List ResultVar) (avs:List AV),l.mapM (a3O T σ false)=some avs ->
  ∃ vs:List Value,(l.mapM (a3s a.tmps)).run P w = .ok vs w/\vs.length=l.length/\avs.length=l.length/\(∀ c∈avs,c.isLocal=false) /\ ∀ (i:Nat) (hi:i<avs.length),RepV G w .no avs[i] (vs.getD i Go.undef)
 | [],avs,h=>by simp at h;subst h;exact ⟨[],by simp,rfl,rfl,fun c hc=>by simp at hc,fun i hi=>by simp at hi⟩
 | x::r,avs,h=>by
   simp only [List.mapM_cons,Option.bind_eq_bind,Option.bind_eq_some_iff,Option.pure_def,zp3] at h;obtain ⟨av,hav,l',hl',rfl⟩:=h;obtain ⟨vs,h1,h2,h3,h4,h5⟩:=b2c hT R r l' hl';obtain ⟨v,e1,e2,e3⟩:=a8c hT R hav;refine ⟨v::vs,by simp [List.mapM_cons,e1,h1],by simp [h2],by simp [h3],?_,fun i hi => ?_⟩
   ·intro c hc;rcases List.mem_cons.1 hc with rfl | hc
    ·exact e2
    exact h4 c hc
   cases i with
   | zero =>
     rcases e3 with ⟨_,e3⟩ | ⟨_,_,_,e,_⟩
     ·simpa using e3 .no
     cases e
   | succ i=>simpa using h5 i (by simpa using hi)
theorem a0n.leaveP {P:Program} {T:a0j} (hT:TOk P T) {fn:Func} {H H':List Obj} {r:AV} (hrl:r.isLocal=false) (hri:r.inb H'.length=true) (hin:a0v H'.length H'=true)
  {n:Nat} {G:Gh} {w:World} {e:Exit} {a':Act} {w':World} (hp:Post H.length G w (a6q T fn H.length r H') e a' w') :
  (e = .normal\/e = .ret)/\LeavesInM (Wd none) n P fn a'.tmps (fun e w' => ∃ v G',e = .returned v/\RepV G' w' .ret r v/\RelH G' H' w'/\Ext H.length G w G' w') a'.defers .returning w':=by
 obtain ⟨σ',G',R',hE,hm,hq⟩:=hp

 have fin : ∀ (hq:b4g T σ' fn.results.toList=some r/\r.inb H'.length=true/\a0v H'.length H'=true/\H.length<=H'.length /\ ∃ junk,σ'.heap=H'++junk),
   LeavesInM (Wd none) n P fn a'.tmps (fun e w' => ∃ v G',e = .returned v/\RepV G' w' .ret r v/\RelH G' H' w'/\Ext H.length G w G' w') a'.defers .returning w':=by
  rintro ⟨hres,_,_,_,junk,hjunk⟩;refine a4B (G:=G') _ _ R'.df ?_;rintro wf ⟨hfs,hfb,hfio⟩;have hpr:Pres G' G' w' wf (fun ℓ=>ℓ ≠ .df):=⟨KLe.refl _,fun b ℓ f hℓ hO=>⟨hO,hfb b (fun hf'=>by rw [hO] at hf';simp at hf';exact hℓ hf'.1)⟩,fun _ _=>rfl,Nat.le_refl _⟩;have hkept : ∀ x v,G'.K x=some v->wf.cell? x=some v:=by
   intro x v hx;have hc:=R'.h.kept x v hx;have hne:G'.O x.block≠some (.df,0):=by
    intro hO;have hsp:x.spot=none:=by
     unfold World.cell? at hc;split at hc
     ·split at hc
      ·cases hc
      rename_i hsp;simpa using hsp
     cases hc
    have:=(R'.h.disj _ _ _ hO).2 x.off (Nat.zero_le _);obtain ⟨xb,xo,xs⟩:=x;simp at hsp;subst hsp;rw [this] at hx;cases hx
   unfold World.cell? at *
   rwa [hfb _ hne]
  have R2:Rel G' σ' { tmps:=a'.tmps,defers:=[] } wf:=by
   refine ⟨⟨R'.h.sane,R'.h.nh,fun i ob hob=>(R'.h.objs i ob hob).pres R'.h.sane (by rw [<-R'.h.nh];exact (zp2.1 hob).1) hpr (by simp) (by simp),hkept,fun b ℓ f hO=>by rw [hfs];exact R'.h.disj b ℓ f hO⟩,R'.size,
    fun t=>(R'.slots t).pres R'.h.sane hpr (by simp) (fun _ _ _=>rfl) (fun _ _ _=>⟨rfl,by simp⟩),R'.places,⟨by simp,fun d hd=>by simp at hd⟩⟩
  have hE2:Ext H.length G w G' wf:=by
   refine ⟨hE.K,hE.new,fun b hb hO' => ?_,by rw [hfs];exact hE.size,hE.β,hfio.1.trans hE.io.1,hfio.2.1.trans hE.io.2.1,fun a ha=>(hfio.2.2.1 a (Nat.lt_of_lt_of_le ha hE.size)).trans (hE.io.2.2.1 a ha),hfio.2.2.2.1.trans hE.io.2.2.2.1,Nat.le_trans hE.io.2.2.2.2 hfio.2.2.2.2⟩;obtain ⟨h1,h2⟩:=hE.others b hb hO';exact ⟨(hfb b (fun hf=>by rw [h2] at hf;cases hf)).trans h1,h2⟩

  have cutG : ∀ (G2:Gh),RelH G2 σ'.heap wf->H'.length<=G2.nh->Ext H.length G w G2 wf->RelH { G2 with nh:=H'.length } H' wf/\Ext H.length G w { G2 with nh:=H'.length } wf /\
    ∀ ℓ v,RepV G2 wf ℓ r v->RepV { G2 with nh:=H'.length } wf ℓ r v:=by
   intro G2 RH2 hle hEE;have hsub:Sub G2 { G2 with nh:=H'.length } wf wf (fun _=>True) H'.length:=⟨KLe.refl _,fun b ℓ f _ hO=>⟨hO,rfl⟩,fun _ _=>rfl,Nat.le_refl _⟩
   refine ⟨⟨⟨RH2.sane.no⟩,rfl,fun i ob hob => ?_,RH2.kept,RH2.disj⟩,⟨hEE.K,hEE.new,hEE.others,hEE.size,hEE.β,hEE.io⟩,fun ℓ v hv=>hv.sub RH2.sane hsub trivial hri hrl⟩;have hi:i<H'.length:=(zp2.1 hob).1;exact (RH2.objs i ob (by rw [hjunk,zp7 hi];exact hob)).sub RH2.sane hi hsub trivial (fun _=>trivial) (a2H hin i ob hob)
  have hle:H'.length<=G'.nh:=by rw [<-R'.h.nh,hjunk];simp
  rw [b0A];simp only [b4g] at hres;split at hres
  ·rename_i x hx;obtain ⟨v,h1,h2,h3⟩:=a8c hT R2 hres;have hrun:(do let vs <-fn.results.mapM (a3s a'.tmps);pure (if h:vs.size=1 then vs[0] else Value.tuple vs):Sem Value).run P wf = .ok v wf:=by
    have:fn.results = #[x]:=by cases hfr2:fn.results;simp_all
    rw [this];simp [h1]
   rcases h3 with ⟨hfree,h3⟩ | ⟨t,k,l,_,rfl,h3⟩
   ·obtain ⟨k1,k2,k3⟩:=cutG G' R2.h hle hE2;exact ⟨v,hrun,v,_,rfl,k3 _ _ (h3 .ret),k1,k2⟩
   cases h3 with | own _ _ _ _ hr ht =>
   have hmv:=G'.move_pres wf (.s t) .ret;have RHm:RelH (G'.move (.s t) .ret) σ'.heap wf:=R2.h.move _ _ (by simp [Loc.root]) (fun i ob hob=>(R2.h.objs i ob hob).pres R2.h.sane (by rw [<-R2.h.nh];exact (zp2.1 hob).1) hmv (by simp) (by simp));obtain ⟨k1,k2,k3⟩:=cutG (G'.move (.s t) .ret) RHm hle (hE2.trans (Ext.move _ _ _ _ _));exact ⟨v,hrun,v,_,rfl,k3 _ _ (.own _ _ _ _ hr ht.move),k1,k2⟩
  rename_i l hl;simp at hres;obtain ⟨avs,hav,rfl⟩:=hres;obtain ⟨vs,h1,h2,h3,h4,h5⟩:=b2c hT R2 _ _ hav;obtain ⟨k1,k2,k3⟩:=cutG G' R2.h hle hE2;have hrun:(do let vs <-fn.results.mapM (a3s a'.tmps);pure (if h:vs.size=1 then vs[0] else Value.tuple vs):Sem Value).run P wf = .ok (.tuple vs.toArray) wf:=by
   have hne:vs.length≠1:=by
    intro h;rw [h2] at h;obtain ⟨x,hx⟩:=List.length_eq_one_iff.1 h;exact hl x hx
   simp [Array.mapM_eq_mapM_toList,h1,hne]
  exact ⟨.tuple vs.toArray,hrun,_,_,rfl,k3 _ _ (.tuple _ _ _ (by simp [h2,h3]) (fun i hi=>by simpa [List.getD,zp5] using h5 i hi) h4),k1,k2⟩
 cases e with
 | normal=>exact ⟨.inl rfl,fin hq⟩
 | ret=>exact ⟨.inr rfl,fin hq⟩
 | _=>exact hq.elim
theorem a0n.enterW {P:Program} {T:a0j} (hT:TOk P T) {f:FuncId} {fn:Func} {c:Code} {args:List AV} {H H':List Obj} {r:AV} (hf:P.funcs[f]?=some fn) (hb:fn.body=some c) (hname:fn.name ≠ "runtime.NumGoroutine")
  (hn:args.length<=fn.ntmps) (hfr:args.all AV.free=true) (hrl:r.isLocal=false) (hri:r.inb H'.length=true) (hin:a0v H'.length H'=true) (hHH:H.length<=H'.length)
  (n:Nat) (G:Gh) (w:World) (h : ∀ a,Rel G { env:=a5o 0 args,heap:=H,n:=fn.ntmps } a w->c.wpIn (Wd none) n P (Post H.length G w (a6q T fn H.length r H')) a w)
  (vs:Array Value) (hvs:vs.size=args.length) (hrep : ∀ (i:Nat) (hi:i<args.length),RepV G w .no args[i] (vs.getD i Go.undef)) (RH:RelH G H w) :
  CallsIn (Wd none) n P f vs w (fun e w' => ∃ v G',e = .returned v/\RepV G' w' .ret r v/\RelH G' H' w'/\Ext H.length G w G' w'):=by
 have hfr' : ∀ c∈args,c.free=true:=by simpa using hfr
 refine callsIn_of_wp_marks hf hb trivial ?_ rfl;have hsz:(vs++Array.replicate (fn.ntmps-vs.size) Go.undef).size=fn.ntmps:=by simp;omega
 have R:Rel G { env:=a5o 0 args,heap:=H,n:=fn.ntmps } { tmps:=vs++Array.replicate (fn.ntmps-vs.size) Go.undef,defers:=[] } w:=by
  refine ⟨RH,hsz,fun t => ?_,fun t r off ht => ?_,⟨by simp,fun d hd=>by simp at hd⟩⟩
  ·simp only [St.get,a2z];split
   ·rename_i ht;simp at ht;have:=(hrep t (by omega)).anywhere (hfr' _ (zp6 (by omega))) (.s t);simpa [List.getD,show t<args.length by omega,zp5,Array.getElem?_append_left (show t<vs.size by omega)] using this
   exact .undef _ _
  simp only [St.get,a2z] at ht;split at ht
  ·rename_i hlt;simp at hlt;have:args[t]'(by omega)∈args:=zp6 _;have h2:=hfr' _ this;simp [List.getD,show t<args.length by omega] at ht;rw [ht] at h2;simp [AV.free] at h2
  cases ht
 refine wpIn_mono (h _ R) ?_;intro e a' w' hp;obtain ⟨he,hl⟩:=a0n.leaveP (n:=n) hT hrl hri hin hp;rcases he with rfl | rfl
 ·exact hl
 exact hl
theorem a0n.enterT {P:Program} {T:a0j} (hT:TOk P T) {f:FuncId} {fn:Func} {c:Code} {args:List AV} {H H':List Obj} {r:AV} (hf:P.funcs[f]?=some fn) (hb:fn.body=some c) (hname:fn.name ≠ "runtime.NumGoroutine")
  (hn:args.length<=fn.ntmps) (hfr:args.all AV.free=true) (hrl:r.isLocal=false) (hri:r.inb H'.length=true) (hin:a0v H'.length H'=true) (hHH:H.length<=H'.length)
  (h:a6S P H.length c (a6q T fn H.length r H') { env:=a5o 0 args,heap:=H,n:=fn.ntmps }):a0n P f args H r H' :=
 ⟨by simp [callable,hf,hb,hname],hrl,hri,hin,hHH,fun n G w vs hvs hrep RH _ =>
  a0n.enterW hT hf hb hname hn hfr hrl hri hin hHH n G w (fun a R=>h n G a w (by rw [RH.nh];exact Nat.le_refl _) R) vs hvs hrep RH⟩
theorem a0n.enter {P:Program} {T:a0j} (hT:TOk P T) {f:FuncId} {fn:Func} {c:Code} {args:List AV} {H H':List Obj} {r:AV} (hf:P.funcs[f]?=some fn) (hb:fn.body=some c) (hname:fn.name ≠ "runtime.NumGoroutine")
  (hn:args.length<=fn.ntmps) (hfr:args.all AV.free=true) (hrl:r.isLocal=false) (hri:r.inb H'.length=true) (hin:a0v H'.length H'=true) (hHH:H.length<=H'.length)
  (h:AWp P H.length c (a6q T fn H.length r H') { env:=a5o 0 args,heap:=H,n:=fn.ntmps }):a0n P f args H r H' :=
 a0n.enterT hT hf hb hname hn hfr hrl hri hin hHH (a6S.of h)
end Go.Am
namespace Go.Am
open Go
def b0B (T:a0j) (σ:St) (o:Oper):Option (Nat×List AV) :=
 match o.op with
 | .call { callee := .value (.tmp t),args,argTypes } =>
   match σ.get t,((args.toList.zip argTypes.toList).mapM fun p=>opv T σ.get p.2 p.1) with
   | .yield l,some vs=>if args.size=argTypes.size then some (l,vs.map AV.copy) else none
   | _,_=>none
 | _=>none
inductive Out where
 | done (σ:St)
 | yield (l:Nat) (args:List AV) (o:Oper) (rest:List Oper) (σ:St)
 | call (f:FuncId) (args:List AV) (o:Oper) (rest:List Oper) (σ:St)
 | stuck
def a8d (A:Ar) (T:a0j) (an:Ann) (all:List Oper):List Oper->St->Out
 | [],σ => .done σ
 | o::os,σ =>
   match a1Q all σ o with
   | some true =>
     match a2c T σ o with
     | some (f,args) => .call f args o os σ
     | none =>
       match b0B T σ o with
       | some (l,args) => .yield l args o os σ
       | none =>
         match a1n A T an σ.n σ.get σ.heap o with
         | some (ss,h)=>a8d A T an all os (σ.upd ss h)
         | none => .stuck
   | some false =>
     match o.dst with
     | some d=>if decide (d<σ.n) && !(σ.get d).isBox then a8d A T an all os (σ.upd [(d,.tuple [])] none) else .stuck
     | none=>a8d A T an all os σ
   | none => .stuck
theorem b5T {A:Ar} {T:a0j} {an:Ann} {σ:St} {o:Oper} {ss:a1f} {h:Option (List Obj)} (he:a1n A T an σ.n σ.get σ.heap o=some (ss,h)):σ.heap.length<=(σ.upd ss h).heap.length:=by
 cases h with
 | none=>exact Nat.le_refl _
 | some H'=>exact a6p he
section
variable {P:Program} {T:a0j} {m:Nat} {Q:Exit->St->Prop} {ops:Array Oper} {an:Ann}
def b2d (P:Program) (m:Nat) (ops:Array Oper) (T:a0j) (Q:Exit->St->Prop):Out->Prop
 | .done σ=>Q .normal σ
 | .call f args o rest σ=>a2c T σ o=some (f,args)->a1Q ops.toList σ o=some true->a1I P m ops (o::rest) Q σ
 | .yield l args o rest σ=>b0B T σ o=some (l,args)->a1Q ops.toList σ o=some true->a1I P m ops (o::rest) Q σ
 | .stuck=>False
theorem a1I.run (hT:TOk P T) : ∀ (l:List Oper) (σ:St),m<=σ.heap.length->b2d P m ops T (fun e σ'=>m<=σ'.heap.length->Q e σ') (a8d Ar.std T an ops.toList l σ)->a1I P m ops l Q σ
 | [],σ,hm,h=>a1I.nil (h hm)
 | o::os,σ,hm,h=>by
   unfold a8d at h;cases hw:a1Q ops.toList σ o with
   | none=>simp [hw,b2d] at h
   | some b =>
     cases b with
     | true =>
       simp only [hw] at h;cases hc:a2c T σ o with
       | some p =>
         obtain ⟨f,args⟩:=p;simp only [hc] at h;have:=h hc hw;intro r n G a w Q' hm' R hQ;exact this r n G a w Q' hm' R (fun e a' w' hp=>by
          obtain ⟨σ',G',R',hE,hm'',hq⟩:=hp;exact hQ e a' w' ⟨σ',G',R',hE,hm'',hq (by rw [R'.h.nh];exact hm'')⟩)
       | none =>
         simp only [hc] at h;cases hy:b0B T σ o with
         | some p =>
           obtain ⟨l,args⟩:=p;simp only [hy] at h;have:=h hy hw;intro r n G a w Q' hm' R hQ;exact this r n G a w Q' hm' R (fun e a' w' hp=>by
            obtain ⟨σ',G',R',hE,hm'',hq⟩:=hp;exact hQ e a' w' ⟨σ',G',R',hE,hm'',hq (by rw [R'.h.nh];exact hm'')⟩)
         | none =>
         simp only [hy] at h;cases he:a1n Ar.std T an σ.n σ.get σ.heap o with
         | none=>simp [he,b2d] at h
         | some q =>
           obtain ⟨ss,h'⟩:=q;simp only [he] at h;have hlen:=b5T he;exact a1I.step hw (a8b hT (a6T σ) (fun _ _=>rfl) (fun _ _ h=>h) (fun _=>rfl) he) (by omega) (a1I.run hT os _ (by omega) h)
     | false =>
       simp only [hw] at h;cases hd:o.dst with
       | none=>simp only [hd] at h;exact a1I.skip0 hw hd (a1I.run hT os σ hm h)
       | some d =>
         simp only [hd] at h;split at h
         ·rename_i hc;simp at hc;exact a1I.skip hw hd hc.1 hc.2 (a1I.run hT os _ hm h)
         exact h.elim
theorem a1I.done (hT:TOk P T) {l:List Oper} {σ σ':St} (h : ∀ A:Ar,A=Ar.std->a8d A T an ops.toList l σ = .done σ') (hm:m<=σ.heap.length) (hq:Q .normal σ'):a1I P m ops l Q σ :=
 a1I.run (an:=an) hT l σ hm (by rw [h _ rfl];exact fun _=>hq)
end
def AV.noPlace:AV->AV
 | .place .. => .undef
 | v=>v
def a8e (e:List (Nat×AV)):List Nat->List (Nat×AV)
 | []=>[]
 | t::r=>(t,(a1R e t).noPlace)::a8e e r
def St.keep (σ:St) (ts:List Nat):St:={ σ with env:=a8e σ.env ts }
theorem a4q (e:List (Nat×AV)) : ∀ (ts:List Nat) (t:Nat),a1R (a8e e ts) t=(a1R e t).noPlace\/a1R (a8e e ts) t = .undef
 | [],t => .inr rfl
 | s::r,t=>by
   simp only [a8e,a1R];split
   ·rename_i h;subst h;exact .inl rfl
   exact a4q e r t
theorem Rel.keep {G:Gh} {σ:St} {a:Act} {w:World} (R:Rel G σ a w) (ts:List Nat):Rel G (σ.keep ts) a w:=by
 refine ⟨R.h,R.size,fun t => ?_,fun t r off ht => ?_,R.df⟩
 ·rcases a4q σ.env ts t with h | h
  ·simp only [St.keep,St.get,h];have:=R.slots t;simp only [St.get] at this;generalize a1R σ.env t=c at this;cases c <;> first | exact this | exact .undef _ _
  simp only [St.keep,St.get,h];exact .undef _ _
 simp only [St.keep,St.get] at ht;rcases a4q σ.env ts t with h | h
 ·rw [h] at ht;generalize a1R σ.env t=c at ht;cases c <;> simp [AV.noPlace] at ht
 rw [h] at ht;cases ht
section
variable {P:Program} {T:a0j} {m:Nat} {Q:Exit->St->Prop} {σ:St}
theorem AWp.keep (ts:List Nat) {c:Code} (h:AWp P m c Q (σ.keep ts)):AWp P m c Q σ:=fun r n G a w hm R=>h r n G a w hm (R.keep ts)
def St.drop (σ:St) (k:Nat):St:={ σ with heap:=σ.heap.take k }
end
structure Rec where
 sets:a1f
 heap:Option (List Obj)
 rd:List Nat
 hr:Bool
 ho:List Nat
 low:List Obj
 hi:Option (Nat×List Obj):=none
 b0:Nat:=0
structure Foot where
 wr:List Nat
 rd:List Nat
 hw:Bool
 hr:Bool
 ho:List Nat
 lw:Nat
 hi:Option Nat
def Rec.foot (x:Rec):Foot:={ wr:=x.sets.map (·.1),rd:=x.rd,hw:=x.heap.isSome,hr:=x.hr,ho:=x.ho,lw:=x.low.length,hi:=x.hi.map (·.1) }
def b2e (hi:Option (Nat×List Obj)) (H:List Obj):List Obj :=
 match hi with
 | none=>H
 | some (q,t)=>H.take q++t
@[simp] theorem a3P (H:List Obj):b2e none H=H:=rfl
theorem a6U {q:Nat} {t H:List Obj} {a:Nat} (h:a<q) (hq:q<=H.length):(b2e (some (q,t)) H)[a]?=H[a]?:=by
 unfold b2e;simp only;rw [zp7 (by simp;omega),List.getElem?_take,if_pos h]
theorem b2f {hi:Option (Nat×List Obj)} {H H':List Obj} {a:Nat} (hl : ∀ q t,hi=some (q,t)->q<=H.length/\q<=H'.length) (h:H[a]?=H'[a]?):(b2e hi H)[a]?=(b2e hi H')[a]?:=by
 cases hi with
 | none=>exact h
 | some p =>
   obtain ⟨q,t⟩:=p;obtain ⟨h1,h2⟩:=hl q t rfl;by_cases ha:a<q
   ·rw [a6U ha h1,a6U ha h2];exact h
   unfold b2e;simp only;rw [zp8 (by simp;omega),zp8 (by simp;omega)];congr 1;simp only [List.length_take];omega
def a2q (low H:List Obj):List Obj:=low++H.drop low.length
@[simp] theorem a8f (H:List Obj):a2q [] H=H:=rfl
theorem a2A {low:List Obj} (h:low.length=0) (H:List Obj):a2q low H=H:=by rw [List.length_eq_zero_iff.1 h];rfl
theorem a8g (low H:List Obj):H.length<=(a2q low H).length:=by simp [a2q];omega
theorem a5t {low H:List Obj} {a:Nat} (h : ¬ a<low.length):(a2q low H)[a]?=H[a]?:=by
 unfold a2q;rw [zp8 (by omega),List.getElem?_drop];congr 1;omega
theorem b0C {low H H':List Obj} {a:Nat} (h:H[a]?=H'[a]?):(a2q low H)[a]?=(a2q low H')[a]?:=by
 by_cases hl:a<low.length
 ·unfold a2q;rw [zp7 hl,zp7 hl]
 rw [a5t hl,a5t hl];exact h
def meets (l m:List Nat):Bool:=l.any fun t=>m.contains t
def Foot.over (x y:Foot):Bool:=(x.hw&&(y.hr || !y.ho.isEmpty))||(decide (0<x.lw)&&y.hr)||(y.ho.any fun a=>decide (a<x.lw)) ||
 match x.hi with
 | none=>false
 | some q=>y.hr||y.ho.any fun a=>decide (q<=a)
def Foot.both (x y:Foot):Bool:=(x.hw||decide (0<x.lw)||x.hi.isSome)&&(y.hw||decide (0<y.lw)||y.hi.isSome)
def Foot.clash (x y:Foot):Bool:=meets x.wr (y.rd++y.wr)||meets x.rd y.wr||x.over y||y.over x||x.both y
structure Alike (σ τ:St):Prop where
 get : ∀ t,σ.get t=τ.get t
 heap:σ.heap=τ.heap
 n:σ.n=τ.n
theorem Alike.refl (σ:St):Alike σ σ:=⟨fun _=>rfl,rfl,rfl⟩
theorem Alike.symm {σ τ:St} (h:Alike σ τ):Alike τ σ:=⟨fun t=>(h.get t).symm,h.heap.symm,h.n.symm⟩
theorem Alike.trans {σ τ υ:St} (h:Alike σ τ) (h':Alike τ υ):Alike σ υ:=⟨fun t=>(h.get t).trans (h'.get t),h.heap.trans h'.heap,h.n.trans h'.n⟩
theorem Rel.alike {G:Gh} {σ τ:St} {a:Act} {w:World} (R:Rel G σ a w) (h:Alike σ τ):Rel G τ a w :=
 ⟨h.heap▸R.h,by rw [R.size,h.n],fun t=>by rw [<-h.get t];exact R.slots t,fun t r off ht=>by rw [<-h.get t] at ht;obtain ⟨cs,hcs⟩:=R.places t r off ht;exact ⟨cs,by rw [<-h.get r];exact hcs⟩,R.df⟩
def a2Y:a1f->Nat->Option AV
 | [],_=>none
 | (s,v)::r,t=>match a2Y r t with
   | some x=>some x
   | none=>if s=t then some v else none
theorem a6r : ∀ (ss:a1f) (e:List (Nat×AV)) (t:Nat),a1R (a0r e ss) t=(a2Y ss t).getD (a1R e t)
 | [],e,t=>rfl
 | (s,v)::r,e,t=>by
   have ih:=a6r r (eset e s v) t;simp only [a0r,List.foldl_cons] at ih ⊢;rw [ih,a0e];simp only [a2Y];cases a2Y r t with
   | some x=>rfl
   | none=>split <;> rfl
theorem a2Z {ss:a1f} {t:Nat} (h:t∉ss.map (·.1)):a2Y ss t=none:=by
 induction ss with
 | nil=>rfl
 | cons p r ih =>
   obtain ⟨s,v⟩:=p;simp at h;simp only [a2Y];rw [ih (by simp;exact h.2),if_neg (fun e=>h.1 e.symm)]
theorem b5U (σ:St) (ss:a1f) (h:Option (List Obj)) (t:Nat):(σ.upd ss h).get t=(a2Y ss t).getD (σ.get t):=a6r ss σ.env t
def Rec.app (σ:St) (x:Rec):St:={ σ.upd x.sets x.heap with heap:=b2e x.hi (a2q x.low (σ.upd x.sets x.heap).heap) }
theorem a4r (σ:St) (x:Rec) (t:Nat):(x.app σ).get t=(a2Y x.sets t).getD (σ.get t):=b5U σ x.sets x.heap t
theorem a1s (σ:St) (x:Rec):(x.app σ).heap=b2e x.hi (a2q x.low (x.heap.getD σ.heap)):=rfl
def Rec.long (b:Nat) (x:Rec):Prop:=(∀ h,x.heap=some h->b<=(a2q x.low h).length) /\ ∀ q t,x.hi=some (q,t)->q<=b/\b<=q+t.length
theorem Rec.long.low {b:Nat} {x:Rec} (h:x.long b) {σ:St} (hb:b<=σ.heap.length):b<=(a2q x.low (x.heap.getD σ.heap)).length:=by
 cases hx:x.heap with
 | none=>exact Nat.le_trans hb (a8g _ _)
 | some H=>exact h.1 H hx
theorem Rec.long.app {b:Nat} {x:Rec} (h:x.long b) {σ:St} (hb:b<=σ.heap.length):b<=(x.app σ).heap.length:=by
 have h1:=h.low hb;rw [a1s];cases hx:x.hi with
 | none=>exact h1
 | some p =>
   obtain ⟨q,t⟩:=p;obtain ⟨h2,h3⟩:=h.2 q t hx;unfold b2e;simp only [List.length_append,List.length_take];omega
theorem b4h {x y:Rec} (h:x.foot.clash y.foot=false) (σ:St):Alike (y.app (x.app σ)) (x.app (y.app σ)):=by
 simp only [Foot.clash,Foot.over,Foot.both,Rec.foot,Bool.or_eq_false_iff] at h;obtain ⟨⟨⟨⟨h1,h2⟩,h3⟩,h4⟩,h5⟩:=h;have hdis : ∀ t,t∈x.sets.map (·.1)->t∉y.sets.map (·.1):=by
  intro t ht hy;have:=List.any_eq_false.1 h1 t ht;simp at this;simp at hy;exact absurd hy (by simpa using this.2)
 refine ⟨fun t => ?_,?_,rfl⟩
 ·simp only [a4r];by_cases hx:t∈x.sets.map (·.1)
  ·rw [a2Z (hdis t hx)];rfl
  rw [a2Z hx]
  rfl
 simp only [a1s];simp only [Bool.and_eq_false_iff,Bool.or_eq_false_iff] at h5;rcases h5 with ⟨⟨e1,e2⟩,e3⟩ | ⟨⟨e1,e2⟩,e3⟩ <;> (replace e2:=of_decide_eq_false e2;replace e2:=Nat.eq_zero_of_not_pos e2)
 ·rw [a2A e2];have e4:x.hi=none:=by
   cases hx:x.hi with
   | none=>rfl
   | some _=>rw [hx] at e3;cases e3
  cases hx:x.heap with
  | none=>simp only [Option.getD_none];rw [a2A e2,e4];rfl
  | some _=>rw [hx] at e1;cases e1
 rw [a2A e2];have e4:y.hi=none:=by
  cases hy:y.hi with
  | none=>rfl
  | some _=>rw [hy] at e3;cases e3
 cases hx:y.heap with
 | none=>simp only [Option.getD_none];rw [a2A e2,e4];rfl
 | some _=>rw [hx] at e1;cases e1
def a0t (S:Nat->Bool):Nat->List Rec->St->St
 | _,[],σ=>σ
 | i,x::r,σ=>a0t S (i+1) r (if S i then x.app σ else σ)
theorem a3Q (S:Nat->Bool) : ∀ (i:Nat) (l:List Rec) {σ τ:St},Alike σ τ->Alike (a0t S i l σ) (a0t S i l τ)
 | _,[],_,_,h=>h
 | i,x::r,σ,τ,h=>by
   simp only [a0t];refine a3Q S (i+1) r ?_;split
   ·refine ⟨fun t=>by rw [a4r,a4r,h.get],by rw [a1s,a1s,h.heap],h.n⟩
   exact h
theorem a1F {S S':Nat->Bool} : ∀ (i:Nat) (l:List Rec) (σ:St),(∀ j,i<=j->j<i+l.length->S j=S' j)->a0t S i l σ=a0t S' i l σ
 | _,[],_,_=>rfl
 | i,x::r,σ,h=>by
   simp only [a0t];rw [h i (Nat.le_refl _) (by simp)];exact a1F (i+1) r _ (fun j h1 h2=>h j (by omega) (by simp;omega))
theorem a4C (S:Nat->Bool) (x:Rec) : ∀ (i:Nat) (l:List Rec) (σ:St),(∀ (j:Nat) (hj:j<l.length),S (i+j)=true->x.foot.clash l[j].foot=false)->Alike (a0t S i l (x.app σ)) (x.app (a0t S i l σ))
 | _,[],σ,_=>Alike.refl _
 | i,y::r,σ,h=>by
   simp only [a0t];have ih:=a4C S x (i+1) r (if S i then y.app σ else σ) (fun j hj hS=>h (j+1) (by simp;omega) (by rw [show i+(j+1)=i+1+j by omega];exact hS))
   refine Alike.trans (a3Q S (i+1) r ?_) ih;split
   ·rename_i hi;exact b4h (h 0 (by simp) (by simpa using hi)) σ
   exact Alike.refl _
theorem a5u (S:Nat->Bool) (q:Nat) : ∀ (i:Nat) (l:List Rec) (σ:St) (hq:q<l.length),S (i+q)=false->(∀ (j:Nat) (hj:j<l.length),q<j->S (i+j)=true->(l[q]).foot.clash l[j].foot=false) ->
  Alike (a0t (fun k=>k == i+q||S k) i l σ) ((l[q]).app (a0t S i l σ))
 | i,[],σ,hq,_,_=>by simp at hq
 | i,x::r,σ,hq,hS,h=>by
   simp only [a0t];cases q with
   | zero =>
     simp only [Nat.add_zero] at hS ⊢;simp only [beq_self_eq_true,Bool.true_or,if_true,hS,Bool.false_eq_true,if_false,List.getElem_cons_zero];rw [a1F (S':=S) (i+1) r _ (fun j h1 _=>by simp;intro e;omega)];exact a4C S x (i+1) r σ (fun j hj hSj=>h (j+1) (by simp;omega) (by omega) (by rw [show i+(j+1)=i+1+j by omega];exact hSj))
   | succ q =>
     have hne:(i == i+(q+1))=false:=by simp
     simp only [hne,Bool.false_or];have ih:=a5u S q (i+1) r (if S i then x.app σ else σ) (by simpa using hq) (by rw [show i+1+q=i+(q+1) by omega];exact hS)
      (fun j hj hqj hSj=>h (j+1) (by simp;omega) (by omega) (by rw [show i+(j+1)=i+1+j by omega];exact hSj))
     rw [show i+1+q=i+(q+1) by omega] at ih;simpa using ih
def Foot.spares (y f:Foot):Prop:=(∀ t∈f.rd,t∉y.wr)/\(f.hr=true->y.hw=false/\y.lw=0/\y.hi=none) /\ ∀ a∈f.ho,y.hw=false /\ ¬ a<y.lw /\ ∀ q,y.hi=some q->a<q
theorem Foot.spares_over {y f:Foot} (h:y.over f=false):(f.hr=true->y.hw=false/\y.lw=0/\y.hi=none) /\ ∀ a∈f.ho,y.hw=false /\ ¬ a<y.lw /\ ∀ q,y.hi=some q->a<q:=by
 simp only [Foot.over,Bool.or_eq_false_iff] at h;obtain ⟨⟨⟨h1,h2⟩,h3⟩,h4⟩:=h;refine ⟨fun hr => ?_,fun a ha => ?_⟩
 ·rw [hr] at h1 h2;refine ⟨by simpa using h1,?_,?_⟩
  ·have : ¬ 0<y.lw:=by simpa using h2
   omega
  cases hy:y.hi with
  | none=>rfl
  | some q=>rw [hy,hr] at h4;simp at h4
 refine ⟨?_,by simpa using List.any_eq_false.1 h3 a ha,fun q hq => ?_⟩
 ·have:f.ho.isEmpty=false:=by
   cases hf:f.ho with
   | nil=>rw [hf] at ha;cases ha
   | cons _ _=>rfl
  rw [this] at h1;simpa using h1
 rw [hq] at h4;simp only [Bool.or_eq_false_iff] at h4;have:=List.any_eq_false.1 h4.2 a ha;simp at this;exact this
theorem Foot.spares_left {y f:Foot} (h:y.clash f=false):y.spares f:=by
 simp only [Foot.clash,Bool.or_eq_false_iff] at h;obtain ⟨⟨⟨⟨h1,_⟩,h3⟩,_⟩,_⟩:=h;refine ⟨fun t ht hy => ?_,Foot.spares_over h3⟩;have:=List.any_eq_false.1 h1 t hy;simp at this;exact this.1 ht
theorem a4D (S S':Nat->Bool) (f:Foot) (b:Nat) : ∀ (i:Nat) (l:List Rec) (σ τ:St),(∀ x∈l,x.long b)->b<=σ.heap.length->b<=τ.heap.length->(∀ (j:Nat) (hj:j<l.length),S (i+j)≠S' (i+j)->(l[j]).foot.spares f) ->
  (∀ t∈f.rd,σ.get t=τ.get t)->(f.hr=true->σ.heap=τ.heap)->(∀ a∈f.ho,σ.heap[a]?=τ.heap[a]?)->σ.n=τ.n ->
  (∀ t∈f.rd,(a0t S i l σ).get t=(a0t S' i l τ).get t)/\(f.hr=true->(a0t S i l σ).heap=(a0t S' i l τ).heap)/\(∀ a∈f.ho,(a0t S i l σ).heap[a]?=(a0t S' i l τ).heap[a]?)/\(a0t S i l σ).n=(a0t S' i l τ).n
 | _,[],σ,τ,_,_,_,_,h1,h2,h4,h3=>⟨h1,h2,h4,h3⟩
 | i,x::r,σ,τ,hlg,hbσ,hbτ,h,h1,h2,h4,h3=>by
   simp only [a0t];have hx:=h 0 (by simp);simp only [Nat.add_zero,List.getElem_cons_zero] at hx;have hxl:=hlg x (by simp);have hrest:=fun σ τ hb hb'=>a4D S S' f b (i+1) r σ τ (fun y hy=>hlg y (by simp [hy])) hb hb' (fun j hj hne=>h (j+1) (by simp;omega) (by rw [show i+(j+1)=i+1+j by omega];exact hne));have skipL:x.foot.spares f->(∀ (σ:St),∀ t∈f.rd,(x.app σ).get t=σ.get t)/\(∀ (σ:St),f.hr=true->(x.app σ).heap=σ.heap) /\ ∀ (σ:St),b<=σ.heap.length -> ∀ a∈f.ho,(x.app σ).heap[a]?=σ.heap[a]?:=by
    rintro ⟨e1,e2,e3⟩;refine ⟨fun σ t ht => ?_,fun σ hr => ?_,fun σ hb a ha => ?_⟩
    ·rw [a4r,a2Z (e1 t ht)];rfl
    ·obtain ⟨q1,q2,q3⟩:=e2 hr;simp only [Rec.foot] at q1 q2 q3;have q4:x.hi=none:=by
      cases hh:x.hi with
      | none=>rfl
      | some _=>rw [hh] at q3;cases q3
     rw [a1s,q4,a3P,a2A q2];cases hh:x.heap with
     | none=>rfl
     | some _=>rw [hh] at q1;cases q1
    obtain ⟨q1,q2,q3⟩:=e3 a ha;simp only [Rec.foot] at q1 q2 q3;have q0:(a2q x.low (x.heap.getD σ.heap))[a]?=σ.heap[a]?:=by
     rw [a5t q2];cases hh:x.heap with
     | none=>rfl
     | some _=>rw [hh] at q1;cases q1
    rw [a1s];cases hh:x.hi with
    | none=>exact q0
    | some p =>
      obtain ⟨q,t⟩:=p;have hq:=(hxl.2 q t hh).1;have hlow:=hxl.low hb;rw [a6U (q3 q (by rw [hh];rfl)) (by omega)];exact q0
   cases hS:S i <;> cases hS':S' i
   ·exact hrest σ τ hbσ hbτ h1 h2 h4 h3
   ·obtain ⟨e1,e2,e3⟩:=skipL (hx (by rw [hS,hS'];decide));simp only [if_true,Bool.false_eq_true,if_false];exact hrest _ _ hbσ (hxl.app hbτ) (fun t ht=>by rw [e1 τ t ht];exact h1 t ht) (fun hr=>by rw [e2 τ hr];exact h2 hr) (fun a ha=>by rw [e3 τ hbτ a ha];exact h4 a ha) h3
   ·obtain ⟨e1,e2,e3⟩:=skipL (hx (by rw [hS,hS'];decide));simp only [if_true,Bool.false_eq_true,if_false];exact hrest _ _ (hxl.app hbσ) hbτ (fun t ht=>by rw [e1 σ t ht];exact h1 t ht) (fun hr=>by rw [e2 σ hr];exact h2 hr) (fun a ha=>by rw [e3 σ hbσ a ha];exact h4 a ha) h3
   simp only [if_true];refine hrest _ _ (hxl.app hbσ) (hxl.app hbτ) (fun t ht => ?_) (fun hr => ?_) (fun a ha => ?_) h3
   ·rw [a4r,a4r,h1 t ht]
   ·rw [a1s,a1s,h2 hr]
   rw [a1s,a1s];refine b2f (fun q t hq => ?_) ?_
   ·have:=(hxl.2 q t hq).1;have h5:=hxl.low hbσ;have h6:=hxl.low hbτ;omega
   cases x.heap with
   | none=>exact b0C (h4 a ha)
   | some _=>rfl
def b4R (acc:List Nat) (o:Oper):Nat:=o.after.toList.foldl (fun s e=>if Region.binds .any e then s ||| 2 ^ e.on ||| acc.getD e.on 0 else s) 0
def a3a:List Oper->List Nat->List Nat
 | [],acc=>acc
 | o::os,acc=>a3a os (acc++[b4R acc o])
def a4U:Nat->List Oper->Bool
 | _,[]=>true
 | i,o::os=>o.after.toList.all (fun e => !Region.binds .any e||decide (e.on<i))&&a4U (i+1) os
def b4S (ms:List Nat) (fs:List Foot):Bool :=
 (List.range fs.length).all fun j=>(List.range j).all fun i=>(ms.getD j 0).testBit i ||
  match fs[i]?,fs[j]? with
  | some x,some y => !(x.clash y) && !(y.clash x)
  | _,_=>true
def a2d (ops:List Oper) (fs:List Foot):Bool:=a4U 0 ops&&b4S (a3a ops []) fs
def Closed (ops:Array Oper) (S:Nat->Bool):Prop := ∀ (j:Nat) (o:Oper),ops[j]?=some o->S j=true -> ∀ e∈o.after,Region.binds .any e=true->S e.on=true
theorem a3R {acc:List Nat} {i:Nat} : ∀ (l:List Edge) (s:Nat),(l.foldl (fun s e=>if Region.binds .any e then s ||| 2 ^ e.on ||| acc.getD e.on 0 else s) s).testBit i=true ->
  s.testBit i=true \/ ∃ e∈l,Region.binds .any e=true/\(e.on=i\/(acc.getD e.on 0).testBit i=true)
 | [],s,h => .inl h
 | e::r,s,h=>by
   simp only [List.foldl_cons] at h;rcases a3R r _ h with h | ⟨e',he',h1,h2⟩
   ·split at h
    ·rename_i hb;simp only [Nat.testBit_or,Bool.or_eq_true,Nat.testBit_two_pow] at h;rcases h with (h | h) | h
     ·exact .inl h
     ·exact .inr ⟨e,by simp,hb,.inl (by simpa using h)⟩
     exact .inr ⟨e,by simp,hb,.inr h⟩
    exact .inl h
   exact .inr ⟨e',by simp [he'],h1,h2⟩
def b2g (ops:Array Oper) (acc:List Nat):Prop := ∀ (j:Nat) (o:Oper),j<acc.length->ops[j]?=some o -> ∀ i,(acc.getD j 0).testBit i=true -> ∀ S,Closed ops S->(∀ e∈o.after,Region.binds .any e=true->S e.on=true)->S i=true
theorem a9J {ops:Array Oper} : ∀ (l:List Oper) (acc:List Nat),(∀ (k:Nat),ops[acc.length+k]?=l[k]?)->b2g ops acc->b2g ops (a3a l acc)
 | [],acc,_,h=>h
 | o::os,acc,hl,h=>by
   refine a9J os _ (fun k => ?_) ?_
   ·have:=hl (k+1);simp at this ⊢;rw [<-this];congr 1;omega
   intro j o' hj ho' i hi S hS hpre;by_cases hja:j<acc.length
   ·rw [List.getD_eq_getElem?_getD,zp7 hja,<-List.getD_eq_getElem?_getD] at hi;exact h j o' hja ho' i hi S hS hpre
   have hje:j=acc.length:=by simp at hj;omega
   subst hje;have ho0:=hl 0;simp at ho0;rw [ho0] at ho';injection ho' with ho';subst ho'
   rw [List.getD_eq_getElem?_getD,zp8 (Nat.le_refl _)] at hi;simp [b4R] at hi;rw [<-Array.foldl_toList] at hi;rcases a3R _ _ hi with hi | ⟨e,he,hb,hi⟩
   ·simp at hi
   have hSe:=hpre e (by simpa using he) hb;rcases hi with rfl | hi
   ·exact hSe
   have hlt:e.on<acc.length:=by
    rcases Nat.lt_or_ge e.on acc.length with h1 | h1
    ·exact h1
    rw [List.getD_eq_getElem?_getD,List.getElem?_eq_none h1] at hi;simp at hi
   cases hoe:ops[e.on]? with
   | none =>
     have h2:acc.length<ops.size:=(Array.getElem?_eq_some_iff.1 ho0).1;rw [Array.getElem?_eq_getElem (by omega)] at hoe;cases hoe
   | some oe=>exact h e.on oe hlt hoe i hi S hS (fun e' he' hb'=>hS e.on oe hoe hSe e' he' hb')
def a1w (P:Program) (m:Nat) (ops:Array Oper) (i:Nat) (σ:St) (x:Rec):Prop :=
 ∀ (τ:St),(∀ t∈x.rd,τ.get t=σ.get t)->(x.hr=true->τ.heap=σ.heap)->(∀ a∈x.ho,τ.heap[a]?=σ.heap[a]?)->τ.n=σ.n->m<=τ.heap.length ->
   τ.heap.length<=(x.app τ).heap.length /\
   ∀ (r:Option Nat) (n:Nat) (G:Gh) (a:Act) (w:World) (Q':Exit->Act->World->Prop) (K:Act->World->Prop),Rel G τ a w ->
     (∀ G' a' w',Rel G' (x.app τ) a' w'->Ext m G w G' w'->K a' w')->wpOpIn (Wd r) n P ops Q' i K a w
inductive DSteps (P:Program) (m:Nat) (ops:Array Oper):Nat->List Oper->St->List Rec->St->Prop
 | nil (i:Nat) (σ:St):DSteps P m ops i [] σ [] σ
 | cons (i:Nat) (o:Oper) (os:List Oper) (σ σ':St) (x:Rec) (xs:List Rec) (h:a1w P m ops i σ x) (hs:DSteps P m ops (i+1) os (x.app σ) xs σ'):DSteps P m ops i (o::os) σ (x::xs) σ'
theorem DSteps.get {P:Program} {m:Nat} {ops:Array Oper} {i:Nat} {l:List Oper} {σ σ':St} {xs:List Rec} (h:DSteps P m ops i l σ xs σ') :
  xs.length=l.length/\σ'=a0t (fun _=>true) i xs σ /\ ∀ (q:Nat) (hq:q<xs.length),a1w P m ops (i+q) (a0t (fun k=>decide (k<i+q)) i xs σ) xs[q]:=by
 induction h with
 | nil i σ=>exact ⟨rfl,rfl,fun q hq=>by simp at hq⟩
 | cons i o os σ σ' x xs h _ ih =>
   obtain ⟨h1,h2,h3⟩:=ih;refine ⟨by simp [h1],by simpa [a0t] using h2,fun q hq => ?_⟩;cases q with
   | zero =>
     have hz : ∀ (l:List Rec) (k:Nat) (τ:St),i<k->a0t (fun k=>decide (k<i+0)) k l τ=τ:=by
      intro l
      induction l with
      | nil=>intro k τ _;rfl
      | cons y r ih =>
        intro k τ hk;simp only [a0t];rw [if_neg (by simp;omega)];exact ih (k+1) τ (by omega)
     simp only [a0t];rw [if_neg (by simp),hz xs (i+1) σ (by omega)];exact h
   | succ q =>
     have:=h3 q (by simpa using hq);simp only [a0t];rw [if_pos (by simp)];rw [show i+(q+1)=i+1+q by omega];simpa using this
theorem a5v {p p':Nat->Bool} {i:Nat} (hp:p i=true) (hp':p' i=false) (hne : ∀ k,k≠i->p' k=p k) : ∀ (l:List Nat),l.Nodup->i∈l->l.countP p'+1=l.countP p
 | [],_,h=>by simp at h
 | k::r,hn,h=>by
   simp at hn;simp only [List.countP_cons];by_cases hk:k=i
   ·subst hk;have:r.countP p'=r.countP p:=List.countP_congr fun q hq=>by rw [hne q (by rintro rfl;exact hn.1 hq)]
    simp [hp,hp',this]
   have ih:=a5v hp hp' hne r hn.2 (by simp at h;rcases h with h | h;exact absurd h.symm hk;exact h)
   rw [hne k hk];omega
theorem a6V (i:Nat) : ∀ (l:List Rec) (σ:St),a0t (fun _=>false) i l σ=σ:=by
 intro l
 induction l generalizing i with
 | nil=>intro σ;rfl
 | cons x r ih=>intro σ;simp only [a0t];exact ih (i+1) σ
theorem AWp.regionD {P:Program} {m b:Nat} {ops:Array Oper} {id:Nat} {Q:Exit->St->Prop} {σ σ':St} {xs:List Rec} (hmix:P.follows .mixedOrders=true) (hm0:m<=σ.heap.length)
  (hlg : ∀ x∈xs,x.long b) (hb0:b<=σ.heap.length) (h:DSteps P m ops 0 ops.toList σ xs σ') (hok:a2d ops.toList (xs.map Rec.foot)=true) (hq:Q .normal σ'):AWp P m (.region id ops true) Q σ:=by
 obtain ⟨hlen,hfin,hst⟩:=h.get;have hlen':xs.length=ops.size:=by simpa using hlen
 simp only [a2d,zp4] at hok;obtain ⟨hback,hpair⟩:=hok;have hmask:b2g ops (a3a ops.toList []):=a9J ops.toList [] (fun k=>by simp) (fun j o hj=>by simp at hj);have hbk : ∀ (j:Nat) (o:Oper),ops[j]?=some o -> ∀ e∈o.after,Region.binds .any e=true->e.on<j:=by
  have gen : ∀ (l:List Oper) (i:Nat),a4U i l=true -> ∀ (k:Nat) (o:Oper),l[k]?=some o -> ∀ e∈o.after,Region.binds .any e=true->e.on<i+k:=by
   intro l
   induction l with
   | nil=>intro i _ k o ho;simp at ho
   | cons o' os ih =>
     intro i hb k o ho e he hbi;simp only [a4U,zp4,List.all_eq_true] at hb;cases k with
     | zero =>
       simp at ho;subst ho;have:=hb.1 e (by simpa using he);simp [hbi] at this;omega
     | succ k =>
       have:=ih (i+1) hb.2 k o (by simpa using ho) e he hbi;omega
  intro j o ho e he hbi;have:=gen ops.toList 0 hback j o (by simpa using ho) e he hbi;omega
 have hpr : ∀ (i j:Nat) (hi:i<xs.length) (hj:j<xs.length),i<j->((a3a ops.toList []).getD j 0).testBit i=true\/((xs[i]).foot.clash xs[j].foot=false/\(xs[j]).foot.clash xs[i].foot=false):=by
  intro i j hi hj hij;simp only [b4S,List.all_eq_true,List.mem_range,List.length_map] at hpair;have:=hpair j hj i hij;simp only [Bool.or_eq_true] at this;rcases this with h | h
  ·exact .inl h
  right;simpa [List.getElem?_map,zp1 hi,zp1 hj] using h
 intro r n G a w hm R;refine wpIn_region_any hmix ?_

 have key : ∀ (fuel:Nat) (listed:Array Bool) (G1:Gh) (a:Act) (w1:World),listed.size=ops.size->Closed ops (fun k=>listed.getD k false)->(List.range ops.size).countP (fun k => !listed.getD k false)<=fuel ->
   Rel G1 (a0t (fun k=>listed.getD k false) 0 xs σ) a w1->Ext m G w G1 w1->m<=(a0t (fun k=>listed.getD k false) 0 xs σ).heap.length->wpAnyIn (Wd r) n P .any ops (Post m G w Q) fuel listed a w1:=by
  have hgd : ∀ (listed:Array Bool),listed.size=ops.size -> ∀ k,k<ops.size->listed.getD k true=listed.getD k false:=by
   intro listed hsz k hk;have:k<listed.size:=by omega
   simp [Array.getD,this]
  have hall : ∀ (listed:Array Bool),listed.size=ops.size->Region.ready .any ops listed=[] -> ∀ k,k<ops.size->listed.getD k false=true:=by
   intro listed hsz hre k
   induction k using Nat.strongRecOn with
   | _ k ih =>
     intro hk;cases hl:listed.getD k false with
     | true=>rfl
     | false =>
       have:k∈Region.ready .any ops listed:=by
        refine mem_ready.2 ⟨by rw [hgd listed hsz k hk];exact hl,ops[k],Array.getElem?_eq_getElem hk,fun e he hb => ?_⟩;have hlt:=hbk k _ (Array.getElem?_eq_getElem hk) e he hb;exact ih e.on hlt (by omega)
       rw [hre] at this;cases this
  have hdone : ∀ (listed:Array Bool) (G1:Gh) (a:Act) (w1:World),listed.size=ops.size->(∀ k,k<ops.size->listed.getD k false=true)->Rel G1 (a0t (fun k=>listed.getD k false) 0 xs σ) a w1->Ext m G w G1 w1 ->
    m<=(a0t (fun k=>listed.getD k false) 0 xs σ).heap.length->Post m G w Q .normal a w1:=by
   intro listed G1 a w1 hsz hl R1 hE hmh;have e:a0t (fun k=>listed.getD k false) 0 xs σ=σ':=by
    rw [hfin];exact a1F 0 xs σ (fun j _ hj=>hl j (by omega))
   rw [e] at R1 hmh;exact ⟨σ',G1,R1,hE,by rw [<-R1.h.nh];exact hmh,hq⟩
  intro fuel
  induction fuel with
  | zero =>
    intro listed G1 a w1 hsz hcl hcnt R1 hE hmh;have hl : ∀ k,k<ops.size->listed.getD k false=true:=by
     intro k hk;have h0:(List.range ops.size).countP (fun k => !listed.getD k false)=0:=by omega
     have:=List.countP_eq_zero.1 h0 k (List.mem_range.2 hk);simpa using this
    refine ⟨?_,hdone listed G1 a w1 hsz hl R1 hE hmh⟩;cases hre:Region.ready .any ops listed with
    | nil=>rfl
    | cons k rest =>
      have hk:k∈Region.ready .any ops listed:=by rw [hre];simp
      obtain ⟨h1,o,h2,_⟩:=mem_ready.1 hk;have hlt:k<ops.size:=(Array.getElem?_eq_some_iff.1 h2).1;rw [hgd listed hsz k hlt,hl k hlt] at h1;cases h1
  | succ fuel ih =>
    intro listed G1 a w1 hsz hcl hcnt R1 hE hmh;refine ⟨fun hready=>hdone listed G1 a w1 hsz (hall listed hsz hready) R1 hE hmh,fun i hi => ?_⟩;obtain ⟨hun,o,ho,hpre⟩:=mem_ready.1 hi;have hlt:i<ops.size:=(Array.getElem?_eq_some_iff.1 ho).1;rw [hgd listed hsz i hlt] at hun;have hix:i<xs.length:=by omega
    have hpre' : ∀ e∈o.after,Region.binds .any e=true->listed.getD e.on false=true:=hpre

    have hsame:=a4D (fun k=>listed.getD k false) (fun k=>decide (k<0+i)) (xs[i]).foot b 0 xs σ σ hlg hb0 hb0 (fun j hj hne=>by
     simp only [Nat.zero_add] at hne ⊢;rcases Nat.lt_trichotomy j i with h | h | h
     ·have hlj:listed.getD j false=false:=by
       cases hh:listed.getD j false with
       | false=>rfl
       | true=>simp [hh,h] at hne
      rcases hpr j i hj hix h with hb | hb
      ·have:=hmask i o (by
        have:(a3a ops.toList []).length=ops.size:=by
         have gl : ∀ (l:List Oper) (acc:List Nat),(a3a l acc).length=acc.length+l.length:=by
          intro l
          induction l with
          | nil=>intro acc;simp [a3a]
          | cons o os ih=>intro acc;simp [a3a,ih];omega
         simpa using gl ops.toList []
        omega) ho j hb _ hcl hpre'
       rw [hlj] at this;cases this
      exact Foot.spares_left hb.1
     ·subst h;simp [hun] at hne
     have hlj:listed.getD j false=true:=by
      cases hh:listed.getD j false with
      | true=>rfl
      | false=>simp [hh] at hne;omega
     rcases hpr i j hix hj h with hb | hb
     ·have hoj:ops[j]?=some (ops[j]'(by omega)):=Array.getElem?_eq_getElem (by omega);have:=hmask j _ (by
       have:(a3a ops.toList []).length=ops.size:=by
        have gl : ∀ (l:List Oper) (acc:List Nat),(a3a l acc).length=acc.length+l.length:=by
         intro l
         induction l with
         | nil=>intro acc;simp [a3a]
         | cons o os ih=>intro acc;simp [a3a,ih];omega
        simpa using gl ops.toList []
       omega) hoj i hb _ hcl (fun e he hbi=>hcl j _ hoj hlj e he hbi)
      have this:listed.getD i false=true:=this;rw [hun] at this;cases this
     exact Foot.spares_left hb.2) (fun _ _=>rfl) (fun _=>rfl) (fun _ _=>rfl) rfl
    have hL:=hst i hix;simp only [Nat.zero_add] at hL hsame;obtain ⟨hmh',hL⟩:=hL (a0t (fun k=>listed.getD k false) 0 xs σ) hsame.1 hsame.2.1 hsame.2.2.1 hsame.2.2.2 hmh;refine hL r n G1 a w1 _ _ R1 fun G' a' w' R' hE' => ?_;have hset : ∀ k,k<ops.size->(listed.setIfInBounds i true).getD k false=(k == 0+i||listed.getD k false):=by
     intro k hk;have hkl:k<listed.size:=by omega
     by_cases hki:k=i
     ·subst hki;simp [Array.getD,hkl]
     have : ¬ i=k:=fun e=>hki e.symm;simp [zp5,Array.getElem?_setIfInBounds_ne this,hki]
    have hal:Alike (a0t (fun k=>(listed.setIfInBounds i true).getD k false) 0 xs σ) ((xs[i]).app (a0t (fun k=>listed.getD k false) 0 xs σ)):=by
     rw [a1F (S':=fun k=>k == 0+i||listed.getD k false) 0 xs σ (fun j _ hj=>hset j (by omega))];refine a5u (fun k=>listed.getD k false) i 0 xs σ hix (by simpa using hun) (fun j hj hij hSj => ?_);simp only [Nat.zero_add] at hSj;rcases hpr i j hix hj hij with hb | hb
     ·have hoj:ops[j]?=some (ops[j]'(by omega)):=Array.getElem?_eq_getElem (by omega);have:=hmask j _ (by
       have:(a3a ops.toList []).length=ops.size:=by
        have gl : ∀ (l:List Oper) (acc:List Nat),(a3a l acc).length=acc.length+l.length:=by
         intro l
         induction l with
         | nil=>intro acc;simp [a3a]
         | cons o os ih=>intro acc;simp [a3a,ih];omega
        simpa using gl ops.toList []
       omega) hoj i hb _ hcl (fun e he hbi=>hcl j _ hoj hSj e he hbi)
      have this:listed.getD i false=true:=this;rw [hun] at this;cases this
     exact hb.1
    refine ih (listed.setIfInBounds i true) G' a' w' (by simpa using hsz) ?_ ?_ (R'.alike hal.symm) (hE.trans hE') (by rw [hal.heap];exact Nat.le_trans hmh hmh')
    ·intro j oj hoj hSj e he hb;have hj:j<ops.size:=(Array.getElem?_eq_some_iff.1 hoj).1;have heon:e.on<ops.size:=Nat.lt_trans (hbk j oj hoj e he hb) hj;simp only [hset j hj,Nat.zero_add] at hSj;simp only [hset e.on heon,Nat.zero_add,Bool.or_eq_true];simp only [Bool.or_eq_true,beq_iff_eq] at hSj;rcases hSj with rfl | hSj
     ·rw [ho] at hoj;injection hoj with hoj;subst hoj
      exact .inr (hpre' e he hb)
     exact .inr (hcl j oj hoj hSj e he hb)
    have:=a5v (p:=fun k => !listed.getD k false) (p':=fun k => !(listed.setIfInBounds i true).getD k false) (i:=i) (by simp [hun]) (by
     have:i<listed.size:=by omega
     simp [Array.getD,this]) (fun k hk=>by
      have : ¬ i=k:=fun e=>hk e.symm;simp [zp5,Array.getElem?_setIfInBounds_ne this]) (List.range ops.size) List.nodup_range (List.mem_range.2 hlt)
    omega
 have hrep : ∀ k,(Array.replicate ops.size false).getD k false=false:=by
  intro k;simp only [zp5,Array.getElem?_replicate];split <;> rfl
 have hst0:a0t (fun k=>(Array.replicate ops.size false).getD k false) 0 xs σ=σ:=by
  rw [a1F (S':=fun _=>false) 0 xs σ (fun j _ _=>hrep j),a6V]
 refine key ops.size (Array.replicate ops.size false) G a _ (by simp) (fun j o _ hS=>by simp only [hrep] at hS;cases hS) ?_ (by rw [hst0];exact R.drew rfl) (Ext.drew (w1:=_) rfl rfl rfl) (by rw [hst0];exact hm0);exact Nat.le_trans List.countP_le_length (by simp)
section
variable {P:Program} {T:a0j} {m:Nat} {ops:Array Oper} {an:Ann} {σ:St} {i:Nat} {o:Oper}
theorem a3i {τ:St} (h : ∀ t∈a0o ops.toList o,τ.get t=σ.get t):a1Q ops.toList τ o=a1Q ops.toList σ o:=by
 unfold a1Q;cases hg:o.guard with
 | none=>rfl
 | some p =>
   obtain ⟨j,b⟩:=p;simp only;cases hd:(ops.toList[j]?).bind (·.dst) with
   | none=>rfl
   | some d =>
     have:τ.get d=σ.get d:=h d (by
      unfold a0o;simp only [hg,List.mem_append];right;rw [hd];simp)
     simp only [this]
theorem a8h {g g':Nat->AV} {rd:List Nat} (h : ∀ t∈rd,g' t=g t):only rd g'=only rd g:=by
 funext t;unfold only;split
 ·rename_i hc;exact h t (by simpa using hc)
 rfl
theorem a8i {A:Ar} {n:Nat} {g:Nat->AV} {H H':List Obj} {a:Nat} {ss:a1f} (hl:b3A g o=some a) (hH:H[a]?=H'[a]?) (h:a1n A T an n g H o=some (ss,none)):a1n A T an n g H' o=some (ss,none):=by
 unfold b3A at hl;split at hl
 ·rename_i t i hop;split at hl
  ·rename_i a' off hg;cases hl;have e1:a1X A T an n g o=none:=by
    unfold a1X;cases o.dst with
    | none=>rfl
    | some d=>simp only [hop];split <;> rfl
   have e2 : ∀ H,a1z A T an n g H o=none:=fun H=>by unfold a1z;simp only [hop]
   have e4 : ∀ H,a3v A T an n g H o=none:=fun H=>by unfold a3v;simp only [hop]
   have e7 : ∀ H,a3y A T n g H o=none:=fun H=>by unfold a3y;simp only [hop]
   have e5 : ∀ H,a3x A T an n g H o=none:=fun H=>by unfold a3x;simp only [hop,hg]
   have e6 : ∀ H,a3w A T an n g H o=none:=fun H=>by unfold a3w;simp only [hop,hg]
   have e8 : ∀ H,a3z A T an n g H o=none:=fun H=>by unfold a3z;simp only [hop,hg]
   unfold a1n at h ⊢;rw [e1,e8,e7,e4,e6,e5,e2] at h ⊢;simp only at h ⊢;have e3:a0G A T n g H o=a0G A T n g H' o:=by
    unfold a0G;simp only [hop,a4N,a1y,hg,hH];split <;> try rfl
    rename_i heq;split at heq
    ·cases heq;simp only [hH]
    cases heq
   rw [<-e3];cases hob:a0G A T n g H o with
   | some r=>rw [hob] at h;exact h
   | none =>
     rw [hob] at h;simp only at h ⊢;unfold a0z at h ⊢;simp only [hop,adr,hg] at h ⊢;cases hT:T t with
     | none=>rw [hT] at h;exact h
     | some td =>
       rw [hT] at h;simp only at h ⊢;rw [<-hH];split at h <;> try (first | exact h | cases h)
       split at h <;> try (first | exact h | cases h)
       split at h
       ·exfalso;simp only [Option.map_eq_some_iff] at h;obtain ⟨p,_,hp⟩:=h;cases hp
       rename_i hc;rw [if_neg hc];exact h
  cases hl
 cases hl
theorem a1w.op (hT:TOk P T) (ho:ops[i]?=some o) {u:Upd} (hw:a1Q ops.toList σ o=some true) (he:b1i Ar.std T an ops.toList σ o=some u) :
  a1w P m ops i σ { sets:=u.sets,heap:=u.heap,rd:=u.rd,hr:=u.hr,ho:=u.ho,low:=[] }:=by
 intro τ hrd hhr hho hn hm;have hu:=he;unfold b1i at he;simp only at he

 have fin : ∀ (ss:a1f) (h:Option (List Obj)) (H:List Obj),u.sets=ss->u.heap=h->u.rd=a4c σ.get ops.toList o->(∀ (i:Nat) (ob:Obj),H[i]?=some ob->τ.heap[i]?=some ob)->(a0F an (only (a4c σ.get ops.toList o) σ.get) o=true->H=τ.heap)->(h.isSome=true->H=τ.heap) ->
   a1n Ar.std T an τ.n (only (a4c σ.get ops.toList o) τ.get) H o=some (ss,h) ->
   τ.heap.length<=(Rec.app τ { sets:=u.sets,heap:=u.heap,rd:=u.rd,hr:=u.hr,ho:=u.ho,low:=[] }).heap.length /\
   ∀ (r:Option Nat) (n:Nat) (G:Gh) (a:Act) (w:World) (Q':Exit->Act->World->Prop) (K:Act->World->Prop),Rel G τ a w ->
   (∀ G' a' w',Rel G' (Rec.app τ { sets:=u.sets,heap:=u.heap,rd:=u.rd,hr:=u.hr,ho:=u.ho,low:=[] }) a' w'->Ext m G w G' w'->K a' w')->wpOpIn (Wd r) n P ops Q' i K a w:=by
  rintro ss h H rfl rfl hrdu hH hHe hHs hev';have hrd' : ∀ t∈a4c σ.get ops.toList o,τ.get t=σ.get t:=by rw [<-hrdu];exact hrd
  have e1:only (a4c σ.get ops.toList o) τ.get=only (a4c σ.get ops.toList o) σ.get:=a8h hrd';have hw':a1Q ops.toList τ o=some true:=by
   rw [a3i (σ:=σ) (τ:=τ) (fun t ht=>hrd' t (by unfold a4c;simp [ht]))];exact hw
  have hless:Less (only (a4c σ.get ops.toList o) τ.get) τ:=by
   intro t;unfold only;split
   ·exact .inl rfl
   exact .inr rfl
  have hstep:=a8b hT hless (fun d hd=>by
   unfold only;rw [if_pos];simp [a4c,a0o,hd]) hH (fun hh=>hHe (by rw [e1] at hh;exact hh)) hev'
  have hlen:τ.heap.length<=(τ.upd u.sets u.heap).heap.length:=by
   cases hh:u.heap with
   | none=>exact Nat.le_refl _
   | some H' =>
     rw [hh] at hev';rw [hHs (by rw [hh];rfl)] at hev';exact a6p hev'
  have happ:Rec.app τ { sets:=u.sets,heap:=u.heap,rd:=u.rd,hr:=u.hr,ho:=u.ho,low:=[] }=τ.upd u.sets u.heap:=rfl;rw [happ];refine ⟨hlen,fun r n G a w Q' K R hK => ?_⟩;unfold wpOpIn;simp only [ho];rw [if_pos (a2m hw' R)];exact hstep r n m G a w Q' K (by rw [<-R.h.nh];exact hm) R hK
 have key : ∀ (rd:List Nat),rd=u.rd->u.rd=a4c σ.get ops.toList o->only (a4c σ.get ops.toList o) τ.get=only (a4c σ.get ops.toList o) σ.get:=by
  rintro rd _ hrdu;exact a8h (by rw [<-hrdu];exact hrd)
 split at he
 ·rename_i a hloc;split at he
  ·rename_i ss hev;cases he;have e1:=key _ rfl rfl;refine fin ss none τ.heap rfl rfl rfl (fun _ _ h=>h) (fun _=>rfl) (fun _=>rfl) ?_;rw [e1,hn];exact a8i hloc (hho a (by simp)).symm hev
  ·rename_i ss h hev;cases he;have e1:=key _ rfl rfl;refine fin ss (some h) τ.heap rfl rfl rfl (fun _ _ h=>h) (fun _=>rfl) (fun _=>rfl) ?_;rw [e1,hn,hhr rfl];exact hev
  cases he
 split at he
 ·rename_i ss h hev;split at he
  ·rename_i hcond;cases he;have e1:=key _ rfl rfl;refine fin ss h (if a0F an (only (a4c σ.get ops.toList o) σ.get) o then τ.heap else []) rfl rfl rfl (fun i ob hob => ?_) (fun hh=>by rw [if_pos hh]) (fun hs => ?_) ?_
   ·split at hob
    ·exact hob
    simp at hob
   ·cases h with
    | none=>cases hs
    | some H'=>rw [if_pos (by simpa using hcond)]
   rw [e1,hn];cases hh:a0F an (only (a4c σ.get ops.toList o) σ.get) o with
   | true=>rw [if_pos rfl,hhr hh];simpa [hh] using hev
   | false=>simpa [hh] using hev
  cases he
 cases he
theorem a1w.skip (ho:ops[i]?=some o) {d:Nat} (hw:a1Q ops.toList σ o=some false) (hd:o.dst=some d) (hlt:d<σ.n) (hb:(σ.get d).isBox=false) :
  a1w P m ops i σ { sets:=[(d,.tuple [])],heap:=none,rd:=a0o ops.toList o,hr:=false,ho:=[],low:=[] }:=by
 intro τ hrd _ _ hn hm;refine ⟨Nat.le_refl _,fun r n G a w Q' K R hK => ?_⟩;have hdm:d∈a0o ops.toList o:=by simp [a0o,hd]
 unfold wpOpIn;simp only [ho];rw [a2m (b:=false) (by rw [a3i (σ:=σ) hrd];exact hw) R,if_neg (by simp)];refine ⟨fun _ _=>trivial,?_⟩;rw [hd];exact hK G _ w (R.put (.tuple _ _ #[] rfl (fun i hi=>by simp at hi) (fun c hc=>by simp at hc)) (fun r off e=>by cases e) (by rw [hrd d hdm];exact hb) (by rw [hn];exact hlt)) (Ext.refl _ _ _)
theorem a5w {τ:St} (h : ∀ t∈a0o ops.toList o,τ.get t=σ.get t):a2c T τ o=a2c T σ o:=by
 unfold a2c;cases hop:o.op <;> try rfl
 rename_i c;obtain ⟨callee,args,ts⟩:=c;cases callee with
 | value x =>
   simp only;have hsl : ∀ t,(Operand.tmp t=x\/Operand.tmp t∈args)->τ.get t=σ.get t:=by
    intro t ht;refine h t ?_;unfold a0o;simp only [hop,Op.operands,Call.operands,List.mem_append,List.mem_flatMap];left;left;rcases ht with rfl | ht
    ·exact ⟨.tmp t,by simp,by simp [a2N]⟩
    exact ⟨.tmp t,by simp [ht],by simp [a2N]⟩
   have e1 : ∀ (ps:List (Operand×TypeId)),(∀ p∈ps,p.1∈args)->(ps.mapM fun p=>opv T τ.get p.2 p.1)=ps.mapM fun p=>opv T σ.get p.2 p.1:=by
    intro ps
    induction ps with
    | nil=>intro _;rfl
    | cons p r ih =>
      intro hp;simp only [List.mapM_cons];rw [ih (fun q hq=>hp q (by simp [hq]))];have:opv T τ.get p.2 p.1=opv T σ.get p.2 p.1:=by
       cases hp1:p.1 with
       | tmp t=>simp only [opv];rw [hsl t (.inr (by have:=hp p (by simp);rw [hp1] at this;exact this))]
       | _=>rfl
      rw [this]
   have e2:(args.toList.zip ts.toList).mapM (fun p=>opv T τ.get p.2 p.1)=(args.toList.zip ts.toList).mapM fun p=>opv T σ.get p.2 p.1:=e1 _ (fun p hp=>by
    have:=(List.of_mem_zip hp).1;simpa using this)
   rw [e2];cases x with
   | tmp t=>simp only [hsl t (.inl rfl)]
   | _=>rfl
 | invoke x name =>
   cases x with
   | tmp t =>
     simp only;have hsl : ∀ s,(s=t\/Operand.tmp s∈args)->τ.get s=σ.get s:=by
      intro s hs;refine h s ?_;unfold a0o;simp only [hop,Op.operands,Call.operands,List.mem_append,List.mem_flatMap];left;left;rcases hs with rfl | hs
      ·exact ⟨.tmp s,by simp,by simp [a2N]⟩
      exact ⟨.tmp s,by simp [hs],by simp [a2N]⟩
     have e1 : ∀ (ps:List (Operand×TypeId)),(∀ p∈ps,p.1∈args)->(ps.mapM fun p=>opv T τ.get p.2 p.1)=ps.mapM fun p=>opv T σ.get p.2 p.1:=by
      intro ps
      induction ps with
      | nil=>intro _;rfl
      | cons p r ih =>
        intro hp;simp only [List.mapM_cons];rw [ih (fun q hq=>hp q (by simp [hq]))];have:opv T τ.get p.2 p.1=opv T σ.get p.2 p.1:=by
         cases hp1:p.1 with
         | tmp t=>simp only [opv];rw [hsl t (.inr (by have:=hp p (by simp);rw [hp1] at this;exact this))]
         | _=>rfl
        rw [this]
     have e2:(args.toList.zip ts.toList).mapM (fun p=>opv T τ.get p.2 p.1)=(args.toList.zip ts.toList).mapM fun p=>opv T σ.get p.2 p.1:=e1 _ (fun p hp=>by
      have:=(List.of_mem_zip hp).1;simpa using this)
     rw [e2,hsl t (.inl rfl)]
   | _=>rfl
 | _=>rfl
theorem a1w.call (hT:TOk P T) (ho:ops[i]?=some o) {f:FuncId} {args:List AV} {r:AV} {d:Nat} (hw:a1Q ops.toList σ o=some true) (hcall:a2c T σ o=some (f,args)) (hargs:a4n 0 args=true)
  (hd:o.dst=some d) (hlt:d<σ.n) (hb:(σ.get d).isBox=false) (hfr:args.all AV.free=true) (hc:a0n P f args [] r []) :
  a1w P m ops i σ { sets:=[(d,r)],heap:=none,rd:=a0o ops.toList o,hr:=false,ho:=[],low:=[] }:=by
 intro τ hrd _ _ hn hm;refine ⟨Nat.le_refl _,fun rr n G a w Q' K R hK => ?_⟩;have hdm:d∈a0o ops.toList o:=by simp [a0o,hd]
 have hbτ:(τ.get d).isBox=false:=by rw [hrd d hdm];exact hb
 unfold wpOpIn;simp only [ho];rw [if_pos (a2m (b:=true) (by rw [a3i (σ:=σ) hrd];exact hw) R)];obtain ⟨hcb,hrl,hri,hin',hHH,hcc⟩:=hc;obtain ⟨hnd,vs,hrun,hvs,hrep⟩:=a5s hT (by rw [a5w (σ:=σ) hrd];exact hcall) hcb R;have RH:RelH G ([]++τ.heap) w:=R.h;have hRh:=RH.handed (H:=[]) rfl;have hfr' : ∀ c∈args,c.free=true:=by simpa using hfr
 have hsub:Sub G (G.handed 0) w w (fun ℓ=>ℓ = .no) 0 :=
  ⟨KLe.refl _,fun b ℓ f hl hO=>absurd (hl▸rfl) (R.h.sane.no b ℓ f hO),fun _ _=>rfl,Nat.le_refl _⟩
 refine ⟨fun _ _=>trivial,?_⟩;rw [Oper.semAt_eq _ _ _ hnd,hrun];refine ⟨fun hh=>by simp [Wd] at hh,?_⟩;refine CallsIn.mono (a4o (hcc (n-1) (G.handed 0) w vs hvs (fun i hi => ?_) hRh (fun b ℓ f hO => ?_))) ?_
 ·exact (hrep i hi).sub R.h.sane hsub rfl (a0Z hargs i hi) (AV.free_isLocal (hfr' _ (zp6 hi)))
 ·have:=(a2G hO).2;cases ℓ <;> simp [a1i] at this
 rintro e w' ⟨v,G3,rfl,hv,R3,hE⟩;obtain ⟨R',hext⟩:=R.back (H:=[]) (rest:=τ.heap) rfl (.inr rfl) hHH R3 hE hin' hv hrl hri (by rw [hn];exact hlt) hbτ;show K (a.put o.dst v) w';rw [hd];refine hK _ _ w' ?_ (hext m (by rw [<-R.h.nh];exact hm));simpa [Rec.app,St.upd,a0r,a2q] using R'
end
inductive OutD where
 | done (σ:St) (xs:List Rec)
 | call (f:FuncId) (args:List AV) (o:Oper) (rest:List Oper) (σ:St) (xs:List Rec)
 | yield (y:Nat) (args:List AV) (o:Oper) (rest:List Oper) (σ:St) (xs:List Rec)
 | stuck
def b4i (σ:St) (o:Oper) (h:Option (List Obj)):Option Nat :=
 match o.op with
 | .store _ (.tmp s) _ =>
   match σ.get s,h with
   | .eptr a _ _ _,some _=>some a
   | _,_=>none
 | _=>none
def nameOf (g:Nat->AV):Operand->List Nat
 | .tmp s=>match g s with
   | .gref a _=>[a]
   | _=>[]
 | _=>[]
def b8B (σ:St) (o:Oper) (b:Nat) (h:Option (List Obj)):Option Nat :=
 match h with
 | none=>none
 | some _ =>
   match o.op with
   | .buildSlice .. => some b
   | .call { callee := .builtin .append,args,.. } =>
     match args.toList with
     | [.tmp s,y]=>match σ.get s with
       | .gref a _=>some ((a::nameOf σ.get y).foldl Nat.min b)
       | .own _ [] | .lim _ []=>some b
       | _=>none
     | _=>none
   | _=>none
def a2e (xs:List Rec) (σ:St):Nat:=match xs with
 | []=>σ.heap.length
 | x::_=>x.b0
def a7t (A:Ar) (T:a0j) (an:Ann) (all:List Oper):List Oper->St->List Rec->OutD
 | [],σ,xs => .done σ xs
 | o::os,σ,xs =>
   match a1Q all σ o with
   | some true =>
     match a2c T σ o with
     | some (f,args) => .call f args o os σ xs
     | none =>
       match b0B T σ o with
       | some (y,args) => .yield y args o os σ xs
       | none =>
       match b1i A T an all σ o with
       | some u =>
         match b4i σ o u.heap with
         | some a=>a7t A T an all os (σ.upd u.sets u.heap) (xs++[{ sets:=u.sets,heap:=none,rd:=u.rd,hr:=true,ho:=u.ho,low:=(u.heap.getD []).take (a+1),b0:=a2e xs σ }])
         | none =>
           match b8B σ o (a2e xs σ) u.heap with
           | some q=>a7t A T an all os (σ.upd u.sets u.heap) (xs++[{ sets:=u.sets,heap:=none,rd:=u.rd,hr:=true,ho:=u.ho,low:=[],hi:=some (q,(u.heap.getD []).drop q),b0:=a2e xs σ }])
           | none=>a7t A T an all os (σ.upd u.sets u.heap) (xs++[{ sets:=u.sets,heap:=u.heap,rd:=u.rd,hr:=u.hr,ho:=u.ho,low:=[],b0:=a2e xs σ }])
       | none => .stuck
   | some false =>
     match o.dst with
     | some d=>if decide (d<σ.n) && !(σ.get d).isBox then a7t A T an all os (σ.upd [(d,.tuple [])] none) (xs++[{ sets:=[(d,.tuple [])],heap:=none,rd:=a0o all o,hr:=false,ho:=[],low:=[],b0:=a2e xs σ }]) else .stuck
     | none => .stuck
   | none => .stuck
def a4Q (xs:List Rec):Nat:=match xs with
 | []=>0
 | x::_=>x.b0
def a1q (P:Program) (m:Nat) (ops:Array Oper) (l:List Oper) (xs:List Rec) (K:St->Prop) (σ:St):Prop :=
 m<=σ.heap.length->a4Q xs<=σ.heap.length ->
 ∃ (ys:List Rec) (σ':St),DSteps P m ops xs.length l σ ys σ'/\a2d ops.toList ((xs++ys).map Rec.foot)=true/\K σ'/\(∀ y∈ys,y.long (a4Q (xs++ys)))/\(xs=[]->a4Q ys<=σ.heap.length)
section
variable {P:Program} {T:a0j} {m:Nat} {ops:Array Oper} {an:Ann} {K:St->Prop} {l:List Oper} {xs:List Rec} {σ:St}
theorem a1q.nil (hok:a2d ops.toList (xs.map Rec.foot)=true) (h:K σ):a1q P m ops [] xs K σ:=fun _ _=>⟨[],σ,.nil _ _,by simpa using hok,h,fun y hy=>(by cases hy),fun _=>Nat.zero_le _⟩
theorem a1q.cons {o:Oper} {x:Rec} (hs:a1w P m ops xs.length σ x) (h:a1q P m ops l (xs++[x]) K (x.app σ)) (hq : ∀ q t,x.hi=some (q,t)->q<=a4Q (xs++[x])/\x.heap=none:=by intro q t hqt;cases hqt) (hb0:xs=[]->x.b0<=σ.heap.length:=by intro _;exact Nat.zero_le _):a1q P m ops (o::l) xs K σ:=by
 intro hm hb;have hmono:=(hs σ (fun _ _=>rfl) (fun _=>rfl) (fun _ _=>rfl) rfl hm).1;have hb1:a4Q (xs++[x])<=σ.heap.length:=by
  cases xs with
  | nil=>exact hb0 rfl
  | cons y r=>exact hb
 obtain ⟨ys,σ',h1,h2,h3,h4,h5⟩:=h (Nat.le_trans hm hmono) (Nat.le_trans hb1 hmono);have ehead:a4Q (xs++x::ys)=a4Q (xs++[x]):=by cases xs <;> rfl
 have e0:a4Q (xs++[x]++ys)=a4Q (xs++[x]):=by cases xs <;> rfl
 rw [e0] at h4;have hxl:x.long (a4Q (xs++[x])):=by
  rw [a1s] at hmono;cases hhi:x.hi with
  | none =>
    refine ⟨fun H hH => ?_,fun q t hqt=>by rw [hhi] at hqt;cases hqt⟩;rw [hH,Option.getD_some,hhi,a3P] at hmono;omega
  | some p =>
    obtain ⟨q,t⟩:=p;obtain ⟨h6,h7⟩:=hq q t hhi;refine ⟨fun H hH=>(by rw [h7] at hH;cases hH),fun q' t' hqt => ?_⟩;rw [hhi] at hqt;injection hqt with hqt
    injection hqt with hq1 hq2
    subst hq1 hq2;refine ⟨h6,?_⟩;rw [hhi] at hmono;unfold b2e at hmono;simp only [List.length_append,List.length_take] at hmono;omega
 refine ⟨x::ys,σ',.cons _ _ _ _ _ _ _ hs (by simpa using h1),by simpa using h2,h3,fun y hy => ?_,fun e => ?_⟩
 ·rw [ehead];rcases List.mem_cons.1 hy with rfl | hy
  ·exact hxl
  exact h4 y hy
 subst e;exact hb0 rfl
theorem b5V {ops:Array Oper} {o:Oper} {l:List Oper} {k:Nat} (hl:o::l=ops.toList.drop k):ops[k]?=some o/\l=ops.toList.drop (k+1):=by
 have h0:(ops.toList.drop k)[0]?=some o:=by rw [<-hl];rfl
 simp at h0;refine ⟨h0,?_⟩;have:=congrArg (List.drop 1) hl;simpa [List.drop_drop,Nat.add_comm] using this
def a6W (P:Program) (m:Nat) (ops:Array Oper) (T:a0j) (K:St->Prop):OutD->Prop
 | .done σ xs=>a2d ops.toList (xs.map Rec.foot)=true/\K σ
 | .call f args o rest σ xs=>a2c T σ o=some (f,args)->a1Q ops.toList σ o=some true->ops[xs.length]?=some o->a1q P m ops (o::rest) xs K σ
 | .yield y args o rest σ xs=>b0B T σ o=some (y,args)->a1Q ops.toList σ o=some true->ops[xs.length]?=some o->a1q P m ops (o::rest) xs K σ
 | .stuck=>False
theorem a5x {A:Ar} {an:Ann} {n:Nat} {g:Nat->AV} {H h:List Obj} {o:Oper} {t:TypeId} {s:Nat} {y:Operand} {a k:Nat} {i:Int} {j:Nat} {ss:a1f} (hop:o.op = .store t (.tmp s) y) (hg:g s = .eptr a k i j)
  (he:a1n A T an n g H o=some (ss,some h)) : ∃ ob,h=H.set a ob:=by
 have e1:a1X A T an n g o=none:=by
  unfold a1X;cases o.dst with
  | none=>rfl
  | some d=>simp only [hop];split <;> rfl
 have e2:a1z A T an n g H o=none:=by unfold a1z;simp only [hop]
 have e4:a3v A T an n g H o=none:=by unfold a3v;simp only [hop]
 have e7:a3y A T n g H o=none:=by unfold a3y;simp only [hop]
 have e6:a3w A T an n g H o=none:=by unfold a3w;simp only [hop,hg]
 unfold a1n at he;rw [e1] at he;cases hJ:a3z A T an n g H o with
 | some r =>
   rw [hJ] at he;simp only at he;subst he;unfold a3z at hJ;cases y <;> simp only [hop,hg] at hJ
   all_goals (repeat' split at hJ)
   all_goals first
    | (cases hJ;done)
    | (injection (‹AV.eptr a k i j=AV.eptr _ 1 _ 0›) with e9;subst e9;cases hJ;exact ⟨_,rfl⟩)
 | none =>
 rw [hJ,e7,e4,e6] at he;cases hG:a3x A T an n g H o with
 | some r =>
   rw [hG] at he;simp only at he;subst he;unfold a3x at hG;simp only [hop,hg] at hG
   repeat' split at hG
   all_goals first
    | (cases hG;done)
    | (cases hG;exact ⟨_,rfl⟩)
 | none =>
 rw [hG,e2] at he;simp only at he;have e3:a4N g H (.tmp s) = .eptr a k i j:=by simp [a4N,a1y,hg]
 unfold a0G at he;simp only [hop,e3] at he
 repeat' split at he
 all_goals first
  | (cases he;done)
  | (cases he;exact ⟨_,rfl⟩)
theorem b2h {u:Upd} {a:Nat} {ob:Obj} {σ τ:St} (hh:u.heap=some (σ.heap.set a ob)) (hτ:true=true->τ.heap=σ.heap) :
  Rec.app τ { sets:=u.sets,heap:=none,rd:=u.rd,hr:=true,ho:=u.ho,low:=(u.heap.getD []).take (a+1) }=τ.upd u.sets u.heap:=by
 have hτ:=hτ rfl;unfold Rec.app;rw [hh];simp only [Option.getD_some,St.upd];congr 1;unfold a2q;rw [hτ];by_cases ha:a<σ.heap.length
 ·rw [show ((σ.heap.set a ob).take (a+1)).length=a+1 by simp;omega];have:σ.heap.drop (a+1)=(σ.heap.set a ob).drop (a+1):=by rw [List.drop_set,if_pos (by omega)]
  rw [Option.getD_none,this,List.take_append_drop]
  rfl
 rw [List.set_eq_of_length_le (by omega),Option.getD_none,List.take_of_length_le (by omega)];simp
theorem a1w.low {i:Nat} {u:Upd} {a:Nat} {ob:Obj} (hh:u.heap=some (σ.heap.set a ob))
  (h:a1w P m ops i σ { sets:=u.sets,heap:=u.heap,rd:=u.rd,hr:=u.hr,ho:=u.ho,low:=[] }) :
  a1w P m ops i σ { sets:=u.sets,heap:=none,rd:=u.rd,hr:=true,ho:=u.ho,low:=(u.heap.getD []).take (a+1) }:=by
 intro τ hrd hhr hho hn hm;have:=h τ hrd (fun _=>hhr rfl) hho hn hm;rw [b2h hh hhr];exact this
theorem b2i {A:Ar} {an:Ann} {all:List Oper} {o:Oper} {u:Upd} {a:Nat} (hl:b4i σ o u.heap=some a) (he:b1i A T an all σ o=some u) : ∃ ob,u.heap=some (σ.heap.set a ob):=by
 unfold b4i at hl;split at hl <;> try cases hl
 rename_i t s y hop;obtain ⟨k,i,j,h,hg,huh⟩ : ∃ k i j h,σ.get s = .eptr a k i j/\u.heap=some h:=by
  cases hg:σ.get s with
  | eptr a' k i j =>
    cases hu:u.heap with
    | none=>rw [hg,hu] at hl;cases hl
    | some h=>rw [hg,hu] at hl;cases hl;exact ⟨_,_,_,_,rfl,rfl⟩
  | _=>rw [hg] at hl;simp at hl
 clear hl;unfold b1i at he;simp only at he;have hin:(only (a4c σ.get all o) σ.get) s=σ.get s:=by
  unfold only;rw [if_pos];simp [a4c,a0o,hop,Op.operands,a2N]
 split at he
 ·rename_i a' hho;simp [b3A,hop] at hho
 split at he
 ·rename_i ss h' hev;split at he
  ·rename_i hcond;cases he;cases h' with
   | none=>cases huh
   | some H' =>
     cases huh;have hhr:a0F an (only (a4c σ.get all o) σ.get) o=true:=by simpa using hcond
     rw [if_pos hhr] at hev;obtain ⟨ob,e⟩:=a5x hop (by rw [hin];exact hg) hev;exact ⟨ob,by rw [e]⟩
  cases he
 cases he
theorem a8j {A:Ar} {an:Ann} {n:Nat} {g:Nat->AV} {H h:List Obj} {o:Oper} {t:TypeId} {cnt:Nat} {parts:Array (Nat×Operand)} {ss:a1f} (hop:o.op = .buildSlice t cnt parts)
  (he:a1n A T an n g H o=some (ss,some h)) : ∃ tl,h=H++tl:=by
 have e1:a1X A T an n g o=none:=by
  unfold a1X;cases o.dst with
  | none=>rfl
  | some d=>simp only [hop];split <;> rfl
 have e2:a1z A T an n g H o=none:=by unfold a1z;simp only [hop]
 have e4:a3v A T an n g H o=none:=by unfold a3v;simp only [hop]
 have e7:a3y A T n g H o=none:=by unfold a3y;simp only [hop]
 have e6:a3w A T an n g H o=none:=by unfold a3w;simp only [hop]
 have e3:a0G A T n g H o=none:=by unfold a0G;simp only [hop]
 unfold a1n at he;rw [e1] at he;cases hJ:a3z A T an n g H o with
 | some r =>
   rw [hJ] at he;simp only at he;subst he;unfold a3z at hJ;simp only [hop] at hJ
   repeat' split at hJ
   all_goals first
    | (cases hJ;done)
    | (cases hJ;exact ⟨_,rfl⟩)
 | none =>
 rw [hJ,e7,e4,e6] at he;cases hG:a3x A T an n g H o with
 | some r =>
   rw [hG] at he;simp only at he;subst he;unfold a3x at hG;simp only [hop] at hG
   repeat' split at hG
   all_goals first
    | (cases hG;done)
    | (cases hG;exact ⟨_,rfl⟩)
 | none =>
 rw [hG,e2,e3] at he;simp only at he;unfold a0z at he;simp only [hop] at he;unfold put at he
 repeat' split at he
 all_goals first
  | (cases he;done)
  | (cases he;exact ⟨_,rfl⟩)
theorem a2I {H:List Obj} {q a:Nat} {x:Obj} (h:q<=a):(H.set a x).take q=H.take q:=by
 apply List.ext_getElem?;intro i;rw [List.getElem?_take,List.getElem?_take];split
 ·rw [List.getElem?_set_ne (by omega)]
 rfl
theorem a2f {H t:List Obj} {q:Nat} (h:q<=H.length):(H++t).take q=H.take q:=List.take_append_of_le_length h
theorem b0D {A:Ar} {an:Ann} {n:Nat} {g:Nat->AV} {H h:List Obj} {o:Oper} {args:Array Operand} {ts:Array TypeId} {s a k q:Nat} {y:Operand} {ss:a1f} (hop:o.op = .call { callee := .builtin .append,args:=args,argTypes:=ts })
  (ha:args.toList=[.tmp s,y]) (hg:g s = .gref a k) (hqa:q<=a) (hqy : ∀ x∈nameOf g y,q<=x) (hqH:q<=H.length) (he:a1n A T an n g H o=some (ss,some h)):h.take q=H.take q:=by
 have e1:a1X A T an n g o=none:=by
  unfold a1X;cases o.dst with
  | none=>rfl
  | some d =>
    simp only [hop,ha];split
    ·split
     ·rename_i h1 _;simp only [List.cons.injEq,Operand.tmp.injEq] at h1;obtain ⟨rfl,rfl,_⟩:=h1;rw [hg];rfl
     rfl
    rfl
 unfold a1n at he;rw [e1] at he;cases hJ:a3z A T an n g H o with
 | some r =>
   rw [hJ] at he;simp only at he;subst he;unfold a3z at hJ;simp only [hop] at hJ;rw [ha] at hJ;split at hJ
   ·rename_i s' q' t u d h1 h2 h3;simp only [List.cons.injEq,Operand.tmp.injEq] at h1;obtain ⟨rfl,rfl,_⟩:=h1;split at hJ
    ·rename_i a1 a2 h4 h5;rw [hg] at h4;cases h4;have hq2:q<=a2:=hqy a2 (by unfold nameOf;simp only [h5];simp)
     repeat' split at hJ
     all_goals first
      | (cases hJ;done)
      | (cases hJ;rw [a2f (by simp;exact hqH),a2I hq2,a2I hqa])
    ·rw [hg] at hJ;simp [AV.emptyOf] at hJ;split at hJ <;> cases hJ
    cases hJ
   cases hJ
 | none =>
 rw [hJ] at he;cases hM:a3y A T n g H o with
 | some r =>
   exfalso;unfold a3y at hM;simp only [hop] at hM;rw [ha] at hM;split at hM
   ·rename_i s' q' t u d h1 h2 h3;simp only [List.cons.injEq,Operand.tmp.injEq] at h1;obtain ⟨rfl,rfl,_⟩:=h1;rw [hg] at hM;simp [AV.ownOf] at hM
   cases hM
 | none =>
 rw [hM] at he;cases hC:a3v A T an n g H o with
 | some r =>
   exfalso;unfold a3v at hC;simp only [hop] at hC;rw [ha] at hC;split at hC
   ·rename_i s' q' t u h1 h2;simp only [List.cons.injEq,Operand.tmp.injEq] at h1;obtain ⟨rfl,rfl,_⟩:=h1;rw [hg] at hC;simp at hC
   cases hC
 | none =>
 have e6:a3w A T an n g H o=none:=by unfold a3w;simp only [hop]
 rw [hC,e6] at he;cases hG:a3x A T an n g H o with
 | some r =>
   rw [hG] at he;simp only at he;subst he;unfold a3x at hG;simp only [hop] at hG;rw [ha] at hG;split at hG
   ·rename_i s' q' t u d h1 h2 h3;simp only [List.cons.injEq,Operand.tmp.injEq] at h1;obtain ⟨rfl,rfl,_⟩:=h1;rw [hg] at hG;simp only at hG
    repeat' split at hG
    all_goals first
     | (cases hG;done)
     | (cases hG;rw [a2f (by simp;exact hqH),a2I hqa])
     | (cases hG;rw [a2I hqa])
   cases hG
 | none =>
 rw [hG] at he;cases hA:a1z A T an n g H o with
 | some r =>
   exfalso;rw [hA] at he;simp only at he;subst he;unfold a1z at hA;simp only [hop] at hA;rw [ha] at hA;split at hA
   ·split at hA
    ·split at hA
     ·rename_i s' q' t u h1 h2;simp only [List.cons.injEq,Operand.tmp.injEq] at h1;obtain ⟨rfl,rfl,_⟩:=h1;rw [hg] at hA;simp at hA
     cases hA
    cases hA
   cases hA
 | none =>
 rw [hA] at he;simp only at he;have e3:a0G A T n g H o=none:=by unfold a0G;simp only [hop]
 rw [e3] at he;simp only at he;exfalso;unfold a0z at he;simp only [hop] at he;rw [ha] at he
 repeat' split at he
 all_goals cases he
theorem a5y {A:Ar} {an:Ann} {n:Nat} {g:Nat->AV} {H h:List Obj} {o:Oper} {args:Array Operand} {ts:Array TypeId} {s k:Nat} {y:Operand} {ss:a1f} (hop:o.op = .call { callee := .builtin .append,args:=args,argTypes:=ts })
  (ha:args.toList=[.tmp s,y]) (hg:g s = .own k []\/g s = .lim k []) (he:a1n A T an n g H o=some (ss,some h)) : ∃ tl,h=H++tl:=by
 have e1:a1X A T an n g o=none:=by
  unfold a1X;cases o.dst with
  | none=>rfl
  | some d =>
    simp only [hop,ha];split
    ·split
     ·rename_i h1 _;simp only [List.cons.injEq,Operand.tmp.injEq] at h1;obtain ⟨rfl,rfl,_⟩:=h1;rcases hg with hg | hg <;> (rw [hg];rfl)
     rfl
    rfl
 unfold a1n at he;rw [e1] at he;cases hJ:a3z A T an n g H o with
 | some r =>
   rw [hJ] at he;simp only at he;subst he;unfold a3z at hJ;simp only [hop] at hJ;rw [ha] at hJ;split at hJ
   ·rename_i s' q' t u d h1 h2 h3;simp only [List.cons.injEq,Operand.tmp.injEq] at h1;obtain ⟨rfl,rfl,_⟩:=h1;rcases hg with hg | hg <;>
    ·rw [hg] at hJ
     repeat' split at hJ
     all_goals first
      | (cases hJ;done)
      | (rename_i he1 _;cases he1;done)
      | (cases hJ;exact ⟨_,rfl⟩)
      | (exfalso;simp_all;done)
   cases hJ
 | none =>
 rw [hJ] at he;cases hM:a3y A T n g H o with
 | some r =>
   rw [hM] at he;simp only at he;subst he;unfold a3y at hM;simp only [hop] at hM;rw [ha] at hM
   repeat' split at hM
   all_goals first
    | (cases hM;done)
    | (cases hM;exact ⟨_,rfl⟩)
    | (simp only [zp3] at hM;obtain ⟨hM,_⟩:=a0B hM;cases hM;done)
 | none =>
 rw [hM] at he;cases hC:a3v A T an n g H o with
 | some r =>
   exfalso;unfold a3v at hC;simp only [hop] at hC;rw [ha] at hC;split at hC
   ·rename_i s' q' t u h1 h2;simp only [List.cons.injEq,Operand.tmp.injEq] at h1;obtain ⟨rfl,rfl,_⟩:=h1;rcases hg with hg | hg <;> (rw [hg] at hC;simp at hC)
   cases hC
 | none =>
 have e6:a3w A T an n g H o=none:=by unfold a3w;simp only [hop]
 rw [hC,e6] at he;cases hG:a3x A T an n g H o with
 | some r =>
   rw [hG] at he;simp only at he;subst he;unfold a3x at hG;simp only [hop] at hG;rw [ha] at hG;split at hG
   ·rename_i s' q' t u d h1 h2 h3;simp only [List.cons.injEq,Operand.tmp.injEq] at h1;obtain ⟨rfl,rfl,_⟩:=h1;rcases hg with hg | hg <;>
    ·rw [hg] at hG;simp only [AV.emptyOf] at hG
     repeat' split at hG
     all_goals first
      | (cases hG;done)
      | (cases hG;exact ⟨_,rfl⟩)
   cases hG
 | none =>
 rw [hG] at he;cases hA:a1z A T an n g H o with
 | some r =>
   rw [hA] at he;simp only at he;subst he;unfold a1z at hA;simp only [hop] at hA;rw [ha] at hA
   repeat' split at hA
   all_goals first
    | (cases hA;done)
    | (cases hA;exact ⟨_,rfl⟩)
    | (simp only [zp3] at hA;obtain ⟨hA,_⟩:=a0B hA;cases hA;done)
 | none =>
 rw [hA] at he;simp only at he;have e3:a0G A T n g H o=none:=by unfold a0G;simp only [hop]
 rw [e3] at he;simp only at he;exfalso;unfold a0z at he;simp only [hop] at he;rw [ha] at he
 repeat' split at he
 all_goals cases he
theorem b4T {u:Upd} {q b:Nat} {h:List Obj} {σ τ:St} (hh:u.heap=some h) (hq:h.take q=σ.heap.take q) (hτ:τ.heap=σ.heap) :
  Rec.app τ { sets:=u.sets,heap:=none,rd:=u.rd,hr:=true,ho:=u.ho,low:=[],hi:=some (q,(u.heap.getD []).drop q),b0:=b }=τ.upd u.sets u.heap:=by
 unfold Rec.app;rw [hh];simp only [Option.getD_some,St.upd,a8f,Option.getD_none,b2e];rw [hτ,<-hq,List.take_append_drop]
theorem a1w.hi {i:Nat} {u:Upd} {q b:Nat} {h:List Obj} (hh:u.heap=some h) (hq:h.take q=σ.heap.take q)
  (hs:a1w P m ops i σ { sets:=u.sets,heap:=u.heap,rd:=u.rd,hr:=u.hr,ho:=u.ho,low:=[] }) :
  a1w P m ops i σ { sets:=u.sets,heap:=none,rd:=u.rd,hr:=true,ho:=u.ho,low:=[],hi:=some (q,(u.heap.getD []).drop q),b0:=b }:=by
 intro τ hrd hhr hho hn hm;have:=hs τ hrd (fun _=>hhr rfl) hho hn hm;rw [b4T hh hq (hhr rfl)];exact this
theorem a8k : ∀ (l:List Nat) (b:Nat),l.foldl Nat.min b<=b /\ ∀ x∈l,l.foldl Nat.min b<=x
 | [],b=>⟨Nat.le_refl _,fun x hx=>by cases hx⟩
 | y::l,b=>by
   obtain ⟨h1,h2⟩:=a8k l (Nat.min b y);refine ⟨Nat.le_trans h1 (Nat.min_le_left _ _),fun x hx => ?_⟩;rcases List.mem_cons.1 hx with rfl | hx
   ·exact Nat.le_trans h1 (Nat.min_le_right _ _)
   exact h2 x hx
theorem b2j {A:Ar} {an:Ann} {all:List Oper} {o:Oper} {u:Upd} {q b:Nat} (hl:b8B σ o b u.heap=some q) (hb:b<=σ.heap.length) (he:b1i A T an all σ o=some u):q<=b /\ ∃ h,u.heap=some h/\h.take q=σ.heap.take q:=by
 cases huh:u.heap with
 | none=>rw [huh] at hl;cases hl
 | some h =>
 rw [huh] at hl;have hev:b3A (only (a4c σ.get all o) σ.get) o=none -> ∃ ss,a1n A T an σ.n (only (a4c σ.get all o) σ.get) σ.heap o=some (ss,some h):=by
  intro hn;unfold b1i at he;simp only [hn] at he;split at he
  ·rename_i ss h' hev;split at he
   ·rename_i hcond;cases he;cases h' with
    | none=>cases huh
    | some H' =>
      cases huh;have hhr:a0F an (only (a4c σ.get all o) σ.get) o=true:=by simpa using hcond
      rw [if_pos hhr] at hev;exact ⟨_,hev⟩
   cases he
  cases he
 unfold b8B at hl;simp only at hl;split at hl
 ·rename_i t cnt parts hop;cases hl;obtain ⟨ss,hev⟩:=hev (by unfold b3A;simp only [hop]);obtain ⟨tl,rfl⟩:=a8j hop hev;exact ⟨Nat.le_refl _,_,rfl,a2f hb⟩
 ·rename_i args ts hop;split at hl
  ·rename_i s y ha;split at hl
   ·rename_i a k hg;cases hl;obtain ⟨ss,hev⟩:=hev (by unfold b3A;simp only [hop]);obtain ⟨h1,h2⟩:=a8k (a::nameOf σ.get y) b;have hin : ∀ s',Operand.tmp s'∈args.toList->(only (a4c σ.get all o) σ.get) s'=σ.get s':=by
     intro s' hs';unfold only;rw [if_pos];simp only [List.contains_eq_mem,decide_eq_true_eq];unfold a4c a0o;simp only [hop,Op.operands,Call.operands,List.mem_append,List.mem_flatMap];left;left;left;exact ⟨.tmp s',by simpa using hs',by simp [a2N]⟩
    have hn : ∀ x∈nameOf (only (a4c σ.get all o) σ.get) y,x∈nameOf σ.get y:=by
     intro x hx;cases y with
     | tmp s' =>
       unfold nameOf at hx ⊢;simp only at hx ⊢;rw [hin s' (by rw [ha];simp)] at hx;exact hx
     | _=>exact hx
    refine ⟨h1,_,rfl,b0D hop ha (by rw [hin s (by rw [ha];simp)];exact hg) (h2 a (by simp)) (fun x hx=>h2 x (by simp [hn x hx])) (Nat.le_trans h1 hb) hev⟩
   ·rename_i k hg;cases hl;obtain ⟨ss,hev⟩:=hev (by unfold b3A;simp only [hop]);have hin : ∀ s',Operand.tmp s'∈args.toList->(only (a4c σ.get all o) σ.get) s'=σ.get s':=by
     intro s' hs';unfold only;rw [if_pos];simp only [List.contains_eq_mem,decide_eq_true_eq];unfold a4c a0o;simp only [hop,Op.operands,Call.operands,List.mem_append,List.mem_flatMap];left;left;left;exact ⟨.tmp s',by simpa using hs',by simp [a2N]⟩
    obtain ⟨tl,rfl⟩:=a5y (k:=k) hop ha (by rw [hin s (by rw [ha];simp)];exact .inl hg) hev;exact ⟨Nat.le_refl _,_,rfl,a2f hb⟩
   ·rename_i k hg;cases hl;obtain ⟨ss,hev⟩:=hev (by unfold b3A;simp only [hop]);have hin : ∀ s',Operand.tmp s'∈args.toList->(only (a4c σ.get all o) σ.get) s'=σ.get s':=by
     intro s' hs';unfold only;rw [if_pos];simp only [List.contains_eq_mem,decide_eq_true_eq];unfold a4c a0o;simp only [hop,Op.operands,Call.operands,List.mem_append,List.mem_flatMap];left;left;left;exact ⟨.tmp s',by simpa using hs',by simp [a2N]⟩
    obtain ⟨tl,rfl⟩:=a5y (k:=k) hop ha (by rw [hin s (by rw [ha];simp)];exact .inr hg) hev;exact ⟨Nat.le_refl _,_,rfl,a2f hb⟩
   cases hl
  cases hl
 cases hl
theorem b2k {x:Rec} (h:x.b0=a2e xs σ):a4Q (xs++[x])=a2e xs σ:=by
 cases xs with
 | nil=>exact h
 | cons _ _=>rfl
theorem a1q.of {h:m<=σ.heap.length->a4Q xs<=σ.heap.length->a1q P m ops l xs K σ}:a1q P m ops l xs K σ:=fun h1 h2=>h h1 h2 h1 h2
theorem a1q.run (hT:TOk P T) : ∀ (l:List Oper) (xs:List Rec) (σ:St),l=ops.toList.drop xs.length->a6W P m ops T K (a7t Ar.std T an ops.toList l σ xs)->a1q P m ops l xs K σ
 | [],xs,σ,_,h=>a1q.nil h.1 h.2
 | o::os,xs,σ,hl,h=>by
   refine a1q.of (h:=fun hm hbb => ?_);have hbase:a2e xs σ<=σ.heap.length:=by
    cases xs with
    | nil=>exact Nat.le_refl _
    | cons x r=>exact hbb
   have hb0 : ∀ {x:Rec},x.b0=a2e xs σ->xs=[]->x.b0<=σ.heap.length:=fun e _=>by rw [e];exact hbase
   obtain ⟨ho,hl'⟩:=b5V hl;unfold a7t at h;cases hw:a1Q ops.toList σ o with
   | none=>simp [hw,a6W] at h
   | some b =>
     cases b with
     | true =>
       simp only [hw] at h;cases hc:a2c T σ o with
       | some p =>
         obtain ⟨f,args⟩:=p;simp only [hc] at h;exact h hc hw ho
       | none =>
         simp only [hc] at h;cases hy:b0B T σ o with
         | some p =>
           obtain ⟨y,args⟩:=p;simp only [hy] at h;exact h hy hw ho
         | none =>
         simp only [hy] at h;cases he:b1i Ar.std T an ops.toList σ o with
         | none=>simp [he,a6W] at h
         | some u =>
           simp only [he] at h;cases hlo:b4i σ o u.heap with
           | none =>
             simp only [hlo] at h;cases hhi:b8B σ o (a2e xs σ) u.heap with
             | none =>
               simp only [hhi] at h;exact a1q.cons (x:={ sets:=u.sets,heap:=u.heap,rd:=u.rd,hr:=u.hr,ho:=u.ho,low:=[],b0:=a2e xs σ }) (a1w.op hT ho hw he) (a1q.run hT os _ _ (by simpa using hl') h) (hb0:=hb0 rfl)
             | some q =>
               simp only [hhi] at h;obtain ⟨h1,hh,h2,h3⟩:=b2j hhi hbase he;refine a1q.cons (a1w.hi (b:=a2e xs σ) h2 h3 (a1w.op hT ho hw he)) (a1q.run hT os _ _ (by simpa using hl') ?_) (fun q' t' e => ?_) (hb0 rfl)
               ·rw [b4T h2 h3 rfl];exact h
               injection e with e
               injection e with e1 e2
               rw [b2k rfl,<-e1];exact ⟨h1,rfl⟩
           | some a =>
             simp only [hlo] at h;obtain ⟨ob,hh⟩:=b2i hlo he;refine a1q.cons (x:={ sets:=u.sets,heap:=none,rd:=u.rd,hr:=true,ho:=u.ho,low:=(u.heap.getD []).take (a+1),b0:=a2e xs σ }) (a1w.low hh (a1w.op hT ho hw he)) (a1q.run hT os _ _ (by simpa using hl') ?_) (hb0:=hb0 rfl);have:=b2h (τ:=σ) hh (fun _=>rfl);rw [show Rec.app σ { sets:=u.sets,heap:=none,rd:=u.rd,hr:=true,ho:=u.ho,low:=(u.heap.getD []).take (a+1),b0:=a2e xs σ }=σ.upd u.sets u.heap from this];exact h
     | false =>
       simp only [hw] at h;cases hd:o.dst with
       | none=>simp [hd,a6W] at h
       | some d =>
         simp only [hd] at h;split at h
         ·rename_i hc;simp at hc;exact a1q.cons (x:={ sets:=[(d,.tuple [])],heap:=none,rd:=a0o ops.toList o,hr:=false,ho:=[],low:=[],b0:=a2e xs σ }) (a1w.skip ho hw hd hc.1 hc.2) (a1q.run hT os _ _ (by simpa using hl') h) (hb0:=hb0 rfl)
         exact h.elim
theorem a1q.done (hT:TOk P T) {σ':St} {xs':List Rec} (hl:l=ops.toList.drop xs.length) (h : ∀ A:Ar,A=Ar.std->a7t A T an ops.toList l σ xs = .done σ' xs') (hok:a2d ops.toList (xs'.map Rec.foot)=true) (hq:K σ'):a1q P m ops l xs K σ :=
 a1q.run (an:=an) hT l xs σ hl (by rw [h _ rfl];exact ⟨hok,hq⟩)
theorem a1q.stepCall (hT:TOk P T) {f:FuncId} {args:List AV} {o:Oper} {rest:List Oper} {σ1:St} {xs1:List Rec} {r:AV} {d:Nat} (hl:l=ops.toList.drop xs.length) (h : ∀ A:Ar,A=Ar.std->a7t A T an ops.toList l σ xs = .call f args o rest σ1 xs1)
  (hargs:a4n 0 args=true) (hd:o.dst=some d) (hlt:d<σ1.n) (hb:(σ1.get d).isBox=false) (hfr:args.all AV.free=true) (hc:a0n P f args [] r [])
  (k:a1q P m ops rest (xs1++[{ sets:=[(d,r)],heap:=none,rd:=a0o ops.toList o,hr:=false,ho:=[],low:=[] }]) K (σ1.upd [(d,r)] none)):a1q P m ops l xs K σ :=
 a1q.run (an:=an) hT l xs σ hl (by
  rw [h _ rfl];exact fun hcall hw ho=>a1q.cons (a1w.call hT ho hw hcall hargs hd hlt hb hfr hc) k)
theorem AWp.regionDraw {id:Nat} {Q:Exit->St->Prop} (hmix:P.follows .mixedOrders=true) (hm:m<=σ.heap.length) (h:a1q P m ops ops.toList [] (Q .normal) σ):AWp P m (.region id ops true) Q σ:=by
 obtain ⟨ys,σ',h1,h2,h3,h4,h5⟩:=h hm (Nat.zero_le _);exact AWp.regionD hmix hm h4 (h5 rfl) h1 h2 h3
theorem a1I.stepCall (hT:TOk P T) {Q:Exit->St->Prop} {f:FuncId} {args:List AV} {o:Oper} {rest:List Oper} {σ1:St} {H Hr H':List Obj} {r:AV} {d:Nat} (h : ∀ A:Ar,A=Ar.std->a8d A T an ops.toList l σ = .call f args o rest σ1)
  (hm:m<=σ.heap.length) (hH:σ1.heap=H++Hr) (hr:Hr=[]\/H'.length=H.length) (hin:a0v H.length H=true) (hargs:a4n H.length args=true) (hd:o.dst=some d) (hlt:d<σ1.n) (hb:(σ1.get d).isBox=false)
  (hfr:args.all AV.free=true) (hc:a0n P f args H r H') (k:a1I P m ops rest Q { σ1 with env:=eset σ1.env d r,heap:=H'++Hr }):a1I P m ops l Q σ :=
 a1I.run (an:=an) hT l σ hm (by
  rw [h _ rfl];intro hcall hw;refine a1I.call hT hw hcall hH hr hin hargs hd hlt hb hfr hc ?_;intro r n G a w Q' hm' R hQ;exact k r n G a w Q' hm' R (fun e a' w' hp=>by
   obtain ⟨σ',G',R',hE,hm'',hq⟩:=hp;exact hQ e a' w' ⟨σ',G',R',hE,hm'',fun _=>hq⟩))
end
section
variable {P:Program} {T:a0j} {m:Nat} {Q:Exit->St->Prop} {σ σ':St} {ops:Array Oper} {an:Ann} {id:Nat} {c:Code}
theorem AWp.reg1 (an:Ann) (hT:TOk P T) (h : ∀ A:Ar,A=Ar.std->a8d A T an ops.toList ops.toList σ = .done σ') (hm:m<=σ.heap.length) (k:Q .normal σ'):AWp P m (.region id ops false) Q σ :=
 AWp.region (a1I.done hT (an:=an) h hm k)
theorem AWp.reg1D (an:Ann) (hT:TOk P T) (hmix:P.follows .mixedOrders=true) {xs:List Rec} (h : ∀ A:Ar,A=Ar.std->a7t A T an ops.toList ops.toList σ [] = .done σ' xs) (hok:a2d ops.toList (xs.map Rec.foot)=true) (hm:m<=σ.heap.length) (k:Q .normal σ'):AWp P m (.region id ops true) Q σ :=
 AWp.regionDraw hmix hm (a1q.done hT (an:=an) rfl h hok k)
end
end Go.Am
