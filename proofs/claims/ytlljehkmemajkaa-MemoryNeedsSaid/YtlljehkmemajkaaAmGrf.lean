import Derived.Test.YtlljehkmemajkaaAmJgl
namespace Go.Am
open Go
theorem Wk.nilJagC {m:Nat} {σ:St} (i j k:Nat) {cs:List AV} {c:AV} (hi:σ.heap[i]?=some (.cells cs)) (hj:cs[j]?=some c) (hc:c.freshOf=some (1,[])) :
  Wk m σ { σ with heap:=σ.heap.set i (.cells (cs.set j (.gref σ.heap.length 1)))++[.jag k [] none,.dead,.dead] }:=by
 intro G a w hm R;obtain ⟨G1,R1,hE,hm1⟩:=Wk.settle i j hi hj hc G a w hm R;have hlen:(σ.heap.set i (Obj.cells (cs.set j (.gref σ.heap.length 1)))).length=σ.heap.length:=by simp
 have hx:(σ.heap.set i (Obj.cells (cs.set j (.gref σ.heap.length 1)))++[Obj.gro 1 [],.dead,.dead])[σ.heap.length]?=some (Obj.gro 1 []):=by
  rw [zp8 (by omega),hlen,Nat.sub_self];rfl
 have R2:=R1.groJag (i:=σ.heap.length) (k:=k) (l:=[]) hx (fun x hx=>by simp at hx) (fun vs e _ _ j hj=>by simp at hj);refine ⟨G1,?_,hE,hm1⟩;have eset':(σ.heap.set i (Obj.cells (cs.set j (.gref σ.heap.length 1)))++[Obj.gro 1 [],.dead,.dead]).set σ.heap.length (.jag k [] none)=σ.heap.set i (Obj.cells (cs.set j (.gref σ.heap.length 1)))++[.jag k [] none,.dead,.dead]:=by
  rw [List.set_append_right _ _ (by omega),hlen,Nat.sub_self];rfl
 simp only [eset'] at R2;exact R2
set_option linter.unusedSimpArgs false
set_option linter.unusedSectionVars false
set_option linter.unusedVariables false
theorem Wk.shutSA {A:Ar} (hA:A=Ar.std) {m:Nat} {σ:St} (i:Nat) {q k:Nat} {z:Int} {l y:List D} (hi:σ.heap[i]?=some (.jag k l (some (z,.gref q k)))) (hq:σ.heap[q]?=some (.gro k y)) (h0:A.zle 0 z=true) (hy:A.lget l (A.nat z)=some ((cL k).en y)) :
  Wk m σ { σ with heap:=(σ.heap.set q .dead).set i (.jag k l none) }:=by
 have h1:=Wk.shutGA (m:=m) hA i hi hq h0 (a2V hA h0 hy);have e:A.lset l (A.nat z) (.list k y)=l:=by
  subst hA;have h2:l[z.toNat]?=some (.list k y):=by simpa [Ar.std,cL] using hy
  show l.set z.toNat (.list k y)=l;apply List.ext_getElem?;intro j;by_cases hj:z.toNat=j
  ·subst hj;rw [List.getElem?_set_self (zp2.1 h2).1,h2]
  rw [List.getElem?_set_ne hj]
 rw [e] at h1;exact h1
theorem a0h.grf {P:Program} {f:FuncId} {args:List AV} {H H' H1 J:List Obj} {q k:Nat} {l:List D} (hq:H'[q]?=some (.gro k l)) (hset:H'.set q .dead=H1++J) (hin:a0v H1.length H1=true) (hlen:H.length<=H1.length) (hqH:H.length<=q)
  (hc:a0h P f args H (.gref q k) H'):a0h P f args H (.fresh k l) H1:=by
 obtain ⟨h1,_,_,_,_,h⟩:=hc;refine ⟨h1,rfl,rfl,hin,hlen,fun n G w vs hvs hrep R hO => ?_⟩;refine CallsIn.mono (h n G w vs hvs hrep R hO) ?_;rintro e w' ⟨v,G',rfl,hv,R',hE⟩;obtain ⟨_,q1,q2,hu,q3⟩:=R'.objs q _ hq;have hpr:=G'.move_pres w' (.o q) .ret;let G1:=G'.move (.o q) .ret;have hql:q<H'.length:=(zp2.1 hq).1;have RK:RelH G' (H'.set q .dead) w':=⟨R'.sane,by simpa using R'.nh,fun i ob hob=>by
  by_cases hiq:i=q
  ·subst hiq;rw [List.getElem?_set_self hql] at hob;cases hob;trivial
  rw [List.getElem?_set_ne (fun e=>hiq e.symm)] at hob;exact R'.objs i ob hob,R'.kept,R'.disj⟩
 have RM:RelH G1 (H'.set q .dead) w':=RK.move _ _ (by simp [Loc.root]) (fun i ob hob=>by
  by_cases hiq:i=q
  ·subst hiq;rw [List.getElem?_set_self hql] at hob;cases hob;trivial
  exact (RK.objs i ob hob).pres RK.sane (by rw [<-RK.nh];exact (zp2.1 hob).1) hpr (by simpa using hiq) (by simp))
 have hle:H1.length<=G1.nh:=by
  have:=RM.nh;rw [hset] at this;simp at this;show H1.length<=G1.nh;omega
 have hsub:Sub G1 { G1 with nh:=H1.length } w' w' (fun _=>True) H1.length:=⟨KLe.refl _,fun b ℓ f _ hO=>⟨hO,rfl⟩,fun _ _=>rfl,Nat.le_refl _⟩
 have hE1:Ext H.length G w G1 w':=hE.trans (Ext.move _ _ _ _ _);refine ⟨v,{ G1 with nh:=H1.length },rfl,?_,⟨⟨RM.sane.no⟩,rfl,fun i ob hob => ?_,RM.kept,RM.disj⟩,⟨hE1.K,hE1.new,hE1.others,hE1.size,hE1.β,hE1.io⟩⟩
 ·refine .fresh _ _ _ _ ?_;generalize hvv:v=vv at hv;cases hv with | gref _ _ _ p p1 p2 p3 =>
  refine ⟨p,G'.β (.o (q+1)),by rw [q1],hu,q2,fun hc => ?_⟩;obtain ⟨vs',e',h3,h4,h5,h6,h7⟩:=q3 hc;exact ⟨G'.β (.o q),vs',e',p3 hc,by show (G'.move (.o q) .ret).O _=_;simp [Gh.move,h3],h4,h5,h6,h7⟩
 have hi:i<H1.length:=(zp2.1 hob).1;exact (RM.objs i ob (by rw [hset,zp7 hi];exact hob)).sub RM.sane hi hsub trivial (fun _=>trivial) (a2h hin i ob hob)
section
variable {P:Program} {T:a0l} {m:Nat} {Q:Exit->St->Prop} {σ:St} {ops:Array Oper} {o:Oper} {l:List Oper}
theorem b5V {args:List AV} (h:args.all AV.free=true) {i:Nat} (hi:i<args.length):args[i].free=true:=by
 rw [List.all_eq_true] at h;exact h _ (zp6 hi)
theorem a1h.callG (hT:TOk P T) {f:FuncId} {args:List AV} {H':List Obj} {r:AV} {d j k:Nat} {x:Operand} {xs:Array Operand} {ts:Array TypeId} (hop:o.op = .call { callee := .value (.func f),args:=xs,argTypes:=ts }) (hw:a1W ops.toList σ o=some true) (hcall:a1R T σ o=some (f,args))
  (hj:xs[j]?=some x) (hx : ∀ a:Act,a.eval x = .slice none 0 0) (hin:a0v (σ.heap.length+3) (σ.heap++[.gro k [],.dead,.dead])=true) (hargs:a4e (σ.heap.length+3) args=true) (hd:o.dst=some d) (hlt:d<σ.n) (hb:(σ.get d).isBox=false)
  (hfr:(args.set j (.gref σ.heap.length k)).all AV.free=true) (hc:a0h P f (args.set j (.gref σ.heap.length k)) (σ.heap++[.gro k [],.dead,.dead]) r H') (h:a1h P m ops l Q { σ with env:=eset σ.env d r,heap:=H' }):a1h P m ops (o::l) Q σ:=by
 intro rr n G a w Q' hm' R hQ;unfold wpListIn;rw [if_pos (a1X hw R)];obtain ⟨hcb,hrl,hri,hin',hHH,hcc⟩:=hc;obtain ⟨hnd,hrun,hvs,hrep⟩:=a6h hT hop hcall hcb R;have hjl:j<args.length:=by
  have:=(Array.getElem?_eq_some_iff.1 hj).1;simp at hvs;omega
 have hvj:(xs.map a.eval).getD j Go.undef = .slice none 0 0:=by
  obtain ⟨h1,h2⟩:=Array.getElem?_eq_some_iff.1 hj;rw [<-hx a];simp [Array.getD,h1,h2]
 let N:=σ.heap.length;have hN:N=G.nh:=R.h.nh;obtain ⟨R1,hE1,hrepN⟩:=R.toGro (w':=w) (k:=k) (l:=[]) (cap:=0) (b:=0) (p:=none) (fun h=>absurd h (by omega)) (fun x hx=>by cases hx) (Nat.le_refl _) (Nat.le_refl _) ⟨rfl,rfl,fun _ _=>rfl,rfl,Nat.le_refl _⟩ (fun _ _ _=>rfl) (fun h=>absurd h (by omega));have hnh1:(G.gro σ.heap.length 0 0 ([]:List D).length).nh=N+3:=by simp [Gh.gro,N]
 generalize (G.gro σ.heap.length 0 0 ([]:List D).length)=G1 at R1 hE1 hrepN hnh1;have hlen:(σ.heap++[Obj.gro k [],.dead,.dead]).length=N+3:=by simp [N]
 have RH:RelH G1 ((σ.heap++[.gro k [],.dead,.dead])++[]) w:=by rw [List.append_nil];exact R1.h
 have hRh:=RH.handed (by rw [hlen];exact hin);obtain ⟨_,hrun1,hvs1,hrep1⟩:=a6h hT (σ:={ σ with heap:=σ.heap++[.gro k [],.dead,.dead] }) hop hcall hcb R1
 refine ⟨fun _ _=>trivial,?_⟩;rw [Oper.semAt_eq _ _ _ hnd,hrun];refine ⟨fun hh=>by simp [Wd] at hh,?_⟩;have hsub:Sub G1 (G1.handed (σ.heap++[Obj.gro k [],.dead,.dead]).length) w w (fun ℓ=>ℓ = .no) (N+3) :=
  ⟨KLe.refl _,fun b ℓ f hl hO=>absurd (hl▸rfl) (R1.h.sane.no b ℓ f hO),fun _ _=>rfl,by rw [hlen];exact Nat.le_refl _⟩
 refine CallsIn.mono (a3p (hcc (n-1) (G1.handed (σ.heap++[Obj.gro k [],.dead,.dead]).length) w (xs.map a.eval) (by rw [hvs];simp) (fun i hi => ?_) hRh (fun b ℓ f hO => ?_))) ?_
 ·have hil:i<args.length:=by simpa using hi
  by_cases hij:i=j
  ·subst hij;rw [List.getElem_set_self,hvj];exact (hrepN .no).sub R1.h.sane hsub rfl (by simp [AV.inb,N]) rfl
  rw [List.getElem_set_ne (fun e=>hij e.symm)];have hfree:args[i].free=true:=by
   have:=b5V hfr hi
   rwa [List.getElem_set_ne (fun e=>hij e.symm)] at this
  exact (hrep1 i hil).sub R1.h.sane hsub rfl (a0V hargs i hil) (AV.free_isLocal hfree)
 ·have:=(a2p hO).2;cases ℓ <;> simp [a1a] at this
  ·rename_i i;exact ⟨i,rfl⟩
  rename_i i j;exact ⟨i,rfl⟩
 rintro e w' ⟨v,G3,rfl,hv,R3,hE⟩;obtain ⟨R',hext⟩:=R1.back (H:=σ.heap++[.gro k [],.dead,.dead]) (rest:=[]) (by simp) (.inl rfl) hHH R3 hE hin' hv hrl hri hlt hb;show wpListIn _ _ _ _ _ _ (a.put o.dst v) w';rw [hd];rw [List.append_nil] at R';refine h rr n _ _ w' Q' ?_ R' (fun e a' w'' hp=>hQ e a' w'' (hp.ext ((hE1 m hm').trans (hext m (by omega)))));have:(σ.heap++[Obj.gro k [],.dead,.dead]).length<=H'.length:=hHH;simp [Gh.back];rw [hlen] at this;omega
theorem a1h.cG {A:Ar} (hT:TOk P T) (hA:A=Ar.std) (an:Ann) {f:FuncId} {args args':List AV} {rest:List Oper} {σ1:St} {H1 H':List Obj} {r:AV} {d:Nat} (j k:Nat) {x:Operand} {xs:Array Operand} {ts:Array TypeId} (h:a8b A T an ops.toList l σ = .call f args o rest σ1)
  (hm:m<=σ.heap.length) (hc:a0h P f args' H1 r H') (hop:o.op = .call { callee := .value (.func f),args:=xs,argTypes:=ts }) (hj:xs[j]?=some x) (hx : ∀ a:Act,a.eval x = .slice none 0 0) (ha:args.set j (.gref σ1.heap.length k)=args') (hh:σ1.heap++[.gro k [],.dead,.dead]=H1) (hin:a0v H1.length H1=true) (hargs:a4e H1.length args=true)
  (hd:o.dst=some d) (hlt:d<σ1.n) (hb:(σ1.get d).isBox=false) (hfr:args'.all AV.free=true) (kk:a1h P m ops rest Q { σ1 with env:=eset σ1.env d r,heap:=H' }):a1h P m ops l Q σ:=by
 subst ha hh;have hl:(σ1.heap++[Obj.gro k [],.dead,.dead]).length=σ1.heap.length+3:=by simp
 rw [hl] at hin hargs;exact a1h.run (an:=an) hT l σ hm (by
  subst hA;rw [h];intro hcall hw;refine a1h.callG hT hop hw hcall hj hx hin hargs hd hlt hb hfr hc ?_;intro r n G a w Q' hm' R hQ;exact kk r n G a w Q' hm' R (fun e a' w' hp=>by
   obtain ⟨σ',G',R',hE,hm'',hq⟩:=hp;exact hQ e a' w' ⟨σ',G',R',hE,hm'',fun _=>hq⟩))
end
end Go.Am
