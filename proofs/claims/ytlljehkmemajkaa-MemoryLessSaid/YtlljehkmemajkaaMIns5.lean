import Derived.Test.YtlljehkmemajkaaProg
import Derived.Shelf.Spec.SlicesInsertGrow
import Derived.KernelRfl
import Derived.Test.YtlljehkmemajkaaAmKeys
set_option linter.unusedVariables false
set_option linter.unusedSimpArgs false
namespace Go.Am
open Go Go.Proofs Go.RowKit Go.Lib
theorem a1E {P:Program} (w:World) (dT sT ty elem:TypeId) (b o dLen dCap:Nat) (a:Addr) (sLen sCap k:Nat) (cs:List Value)
  (hu:P.underlying dT=some (.slice elem)) (hs : ∀ w,(Go.sizeOf elem).run P w = .ok k w) (hn:cs.length=Nat.min sLen dLen*k)
  (hsrc : ∀ j v,cs[j]?=some v->w.cell? (a.add j)=some v) (hc : ∀ j,j<cs.length->(w.cell? ⟨b,o+j,none⟩).isSome=true) (hf : ∀ j,j<cs.length->w.frozen? ⟨b,o+j,none⟩=false) (h1 : ∀ v∈cs,v.oneCell'=true) :
  (Builtin.copy_ #[dT,sT] ty #[.slice (some ⟨b,o,none⟩) dLen dCap,.slice (some a) sLen sCap]).run P w = .ok (goInt (Nat.min sLen dLen)) (w.setCells b o cs):=by
 have hl:=run_loadCells_list (P:=P) w a cs hsrc;have hst:=run_storeCells_cells (P:=P) b o cs 0 w (by simpa using hc) (by simpa using hf) h1;simp [Builtin.copy_,run_underlying hu,Builtin.lenOf,Builtin.firstCells,hs,<-hn,hl,hst]
theorem b8p:Try.prog.follows .mixedOrders=true:=by kernel_rfl
theorem ovM (w:World) {vb b vc lb cb o:Nat} (hne:vb≠b) {tA tB:TypeId} {kA kB:Nat} (hsa:w.shape? vb=some (tA,kA)) (hsb:w.shape? b=some (tB,kB)) (hkB:kB≠0) (hfa:w.frozen? ⟨vb,0,none⟩=false) (hfe:w.frozen? ⟨vb,kA,none⟩=false) :
  (callFunc 111 #[.slice (some ⟨vb,0,none⟩) 1 vc,.slice (some ⟨b,o,none⟩) lb cb]).run Try.prog w = .ok (.value (.bool false)) w:=by
 rw [run_callFunc_extern Try.func111 (by kernel_rfl) (by kernel_rfl) (by kernel_rfl) (e:=Extern.SlicesOverlaps.overlaps #[46,46] #[4]) (by kernel_rfl),
  Lib.run_overlaps_apart w 46 4 63 Try.underlying46 3 Try.sizeOf63 ⟨vb,0,none⟩ ⟨b,o,none⟩ 1 vc lb cb hne tA tB kA kB hsa hsb hkB hfa hfe]
 rfl
set_option maxHeartbeats 4000000 in
set_option maxRecDepth 100000 in
theorem b2H (b n c i vb vc:Nat) (cs vs:List Value) (w:World) (hi:i<n) (hroom:n+1<=c) (hc63:n<=1000000) (hvb:vb≠b)
  (hcl:cs.length=n*3) (hvl:vs.length=3)
  (hcs : ∀ j v,cs[j]?=some v->w.cell? ⟨b,j,none⟩=some v) (hsp : ∀ j,j<(n+1)*3->(w.cell? ⟨b,j,none⟩).isSome=true) (hfz : ∀ j,w.frozen? ⟨b,j,none⟩=false)
  (hvs : ∀ j v,vs[j]?=some v->w.cell? ⟨vb,j,none⟩=some v) (h1c : ∀ v∈cs,v.oneCell'=true) (h1v : ∀ v∈vs,v.oneCell'=true)
  (tA tB:TypeId) (kA kB:Nat) (hsa:w.shape? vb=some (tA,kA)) (hsb:w.shape? b=some (tB,kB)) (hkB:kB≠0) (hfa:w.frozen? ⟨vb,0,none⟩=false) (hfe:w.frozen? ⟨vb,kA,none⟩=false) :
  Calls Try.prog 91 #[.slice (some ⟨b,0,none⟩) n c,.int .i64 i,.slice (some ⟨vb,0,none⟩) 1 vc] w fun e w' =>
   e = .returned (.slice (some ⟨b,0,none⟩) (n+1) c)/\w'=(w.drew.setCells b ((i+1)*3) (cs.drop (i*3))).setCells b (i*3) vs:=by
 have t0:=Try.underlying0;have t3:=Try.underlying3;have t4:=Try.underlying4;have t46:=Try.underlying46;have t63:=Try.underlying63;have u0:=run_underlying Try.underlying0;have u3:=run_underlying Try.underlying3;have u4:=run_underlying Try.underlying4;have u46:=run_underlying Try.underlying46;have u63:=run_underlying Try.underlying63;have z63:=Try.sizeOf63;have mixed:=b8p;have hz2 : ¬ ((i:Int)=(n:Int)):=by omega
 have hov : ∀ lb cb o,(callFunc 111 #[.slice (some ⟨vb,0,none⟩) 1 vc,.slice (some ⟨b,o,none⟩) lb cb]).run Try.prog w = .ok (.value (.bool false)) w:=fun lb cb o=>ovM w hvb hsa hsb hkB hfa hfe;have hdl:(cs.drop (i*3)).length=(n-i)*3:=by rw [List.length_drop,hcl];omega
 have hw1:IntKind.i64.wrap ((i:Int)+1)=(i:Int)+1:=by rw [IntKind.wrap_i64];omega
 have hw2:IntKind.i64.wrap ((n:Int)+1)=(n:Int)+1:=by rw [IntKind.wrap_i64];omega
 have hb1:(0:Int)<=(i:Int)+1:=by omega
 have hin:i<=n:=by omega
 have htn:((i:Int)+1).toNat=i+1:=by omega
 have htn2:((n:Int)+1).toNat=n+1:=by omega
 have hb2 : ¬ (c=i+1):=by omega
 have hb3:(i:Int)<=(n:Int)+1:=by omega
 have hb4 : ¬ (c=i):=by omega
 have hcp1 : ∀ ty dc sc,(Builtin.copy_ #[46,46] ty #[.slice (some ⟨b,(i+1)*3,none⟩) (n-i) dc,.slice (some ⟨b,i*3,none⟩) (n+1-i) sc]).run Try.prog w.drew = .ok (goInt ((n-i:Nat):Int)) (w.drew.setCells b ((i+1)*3) (cs.drop (i*3))):=fun ty dc sc=>by
  have h:=a1E (P:=Try.prog) w.drew 46 46 ty 63 b ((i+1)*3) (n-i) dc ⟨b,i*3,none⟩ (n+1-i) sc 3 (cs.drop (i*3)) Try.underlying46 Try.sizeOf63 (by rw [hdl];simp only [Nat.min_def];split <;> omega)
   (fun j v hj=>by rw [Addr.add_lit];exact hcs (i*3+j) v (by rwa [List.getElem?_drop] at hj))
   (fun j hj=>hsp _ (by rw [hdl] at hj;omega)) (fun j hj=>hfz _) (fun v hv=>h1c v (List.mem_of_mem_drop hv))
  rwa [show Nat.min (n+1-i) (n-i)=n-i by simp only [Nat.min_def];split <;> omega] at h
 obtain ⟨W1,hW1⟩ : ∃ W1,W1=w.drew.setCells b ((i+1)*3) (cs.drop (i*3)):=⟨_,rfl⟩;have hsp1 : ∀ k,k<(n+1)*3->(W1.cell? ⟨b,k,none⟩).isSome=true:=fun k hk=>by
  rw [hW1];exact isSome_setCells b (cs.drop (i*3)) ((i+1)*3) w.drew (fun j hj=>hsp _ (by rw [hdl] at hj;omega)) k (hsp k hk)
 have hcp2 : ∀ (W:World),(∀ x,W.cell? x=W1.cell? x)->(∀ x,W.frozen? x=W1.frozen? x) -> ∀ ty dc,(Builtin.copy_ #[46,46] ty #[.slice (some ⟨b,i*3,none⟩) (n+1-i) dc,.slice (some ⟨vb,0,none⟩) 1 vc]).run Try.prog W = .ok (goInt 1) (W.setCells b (i*3) vs):=fun W hWc hWf ty dc=>by
  have h:=a1E (P:=Try.prog) W 46 46 ty 63 b (i*3) (n+1-i) dc ⟨vb,0,none⟩ 1 vc 3 vs Try.underlying46 Try.sizeOf63 (by rw [hvl];simp only [Nat.min_def];split <;> omega)
   (fun j v hj=>by
    rw [Addr.add_lit,hWc,hW1,World.cell?_setCells_out b _ _ _ _ (fun h _=>absurd h hvb),Nat.zero_add];exact hvs j v hj)
   (fun j hj=>by rw [hWc];exact hsp1 _ (by rw [hvl] at hj;omega)) (fun j hj=>by rw [hWf,hW1,World.frozen?_setCells];exact hfz _) h1v
  rwa [show Nat.min 1 (n+1-i)=1 by simp only [Nat.min_def];split <;> omega] at h
 rw [<-hW1] at hcp1
 go_enter Try.func91,Try.ntmps91
 go_wp2_with (simp only [hov])
 go_region_law_o (refine step_copy_runI rfl _ _ 46 46 rfl _ _ (by simp [Act.eval,Act.put];rfl) (by simp [Act.eval,Act.put];rfl) (hcp1 _ _ _) ?_)
 go_wp2_with (at_builtin;refine wpList_copy_runI _ rfl _ _ 46 46 rfl _ _ rfl rfl (hcp2 _ (fun _=>rfl) (fun _=>rfl) _ _) ?_)
 go_ret
 first | exact ⟨rfl,rfl⟩ | exact ⟨rfl,by rw [hW1]⟩
end Go.Am

namespace Go.Am
open Go Go.Proofs Go.RowKit Go.Lib
abbrev a9H:Value := .agg #[.int .i64 0,.int .i64 0,.int .i64 0]
theorem b9l:(Try.prog.info? 63).map (fun i=>(i.zero,i.size,i.bytes))=some (some a9H,3,24):=by kernel_rfl
set_option maxHeartbeats 4000000 in
set_option maxRecDepth 100000 in
theorem a8i (b n c vb vc:Nat) (vs:List Value) (w:World) (hroom:n+1<=c) (hc63:n<=1000000)
  (hvl:vs.length=3) (hsp : ∀ j,j<(n+1)*3->(w.cell? ⟨b,j,none⟩).isSome=true) (hfz : ∀ j,w.frozen? ⟨b,j,none⟩=false)
  (hvs : ∀ j v,vs[j]?=some v->w.cell? ⟨vb,j,none⟩=some v) (h1v : ∀ v∈vs,v.oneCell'=true) :
  Calls Try.prog 91 #[.slice (some ⟨b,0,none⟩) n c,.int .i64 n,.slice (some ⟨vb,0,none⟩) 1 vc] w fun e w' =>
   e = .returned (.slice (some ⟨b,0,none⟩) (n+1) c)/\w'=w.setCells b (n*3) vs:=by
 have t0:=Try.underlying0;have t3:=Try.underlying3;have t4:=Try.underlying4;have t46:=Try.underlying46;have t63:=Try.underlying63;have u0:=run_underlying Try.underlying0;have u3:=run_underlying Try.underlying3;have u4:=run_underlying Try.underlying4;have u46:=run_underlying Try.underlying46;have u63:=run_underlying Try.underlying63;have z63:=Try.sizeOf63;have mixed:=b8p;obtain ⟨i0,hi0,hz0,hzs,hzb⟩:=info_parts b9l;have hsrc:Src Try.prog i0.size 46 (.slice (some ⟨vb,0,none⟩) 1 vc) 1 vs w:=by
  rw [hzs];exact Src.ofSlice w Try.underlying46 ⟨vb,0,none⟩ 1 vc vs (by omega) (fun j u hj=>by rw [Addr.add_lit,Nat.zero_add];exact hvs j u hj) h1v
 go_enter Try.func91,Try.ntmps91
 go_wp2_with (at_builtin;refine wpList_append_room_src _ rfl _ _ 46 46 rfl 63 i0 Try.underlying46 hi0 b 0 n c rfl _ rfl 1 vs hsrc hroom (by rw [hzs];intro j hj;rw [Nat.zero_add];exact hsp _ (by omega)) (by intro j hj;exact hfz _) ?_)
 go_ret
 exact ⟨rfl,rfl⟩
set_option maxHeartbeats 4000000 in
set_option maxRecDepth 100000 in
theorem a8j (base:Option Addr) (n c vb vc:Nat) (cs vs:List Value) (w:World) (hnc:n<=c) (hroom:c<n+1) (hbig:n<=1000000)
  (hcl:cs.length=n*3) (hvl:vs.length=3) (hnil:base=none->n=0)
  (hcs : ∀ a,base=some a -> ∀ j v,cs[j]?=some v->w.cell? (a.add j)=some v)
  (hvs : ∀ j v,vs[j]?=some v->w.cell? ⟨vb,j,none⟩=some v) (h1v : ∀ v∈vs,v.oneCell'=true) :
  Calls Try.prog 91 #[.slice base n c,.int .i64 n,.slice (some ⟨vb,0,none⟩) 1 vc] w fun e w' =>
   e = .returned (.slice (some ⟨w.heap.size,0,none⟩) (n+1) (grownCap w (n+1) c 63)) /\
   w'=w.drew.alloc (.cells ((cs++vs).toArray++Builtin.zeroCells a9H.cells (grownCap w (n+1) c 63-(n+1))) 63):=by
 have t0:=Try.underlying0;have t3:=Try.underlying3;have t4:=Try.underlying4;have t46:=Try.underlying46;have t63:=Try.underlying63;have u0:=run_underlying Try.underlying0;have u3:=run_underlying Try.underlying3;have u4:=run_underlying Try.underlying4;have u46:=run_underlying Try.underlying46;have u63:=run_underlying Try.underlying63;have z63:=Try.sizeOf63;have mixed:=b8p;obtain ⟨i0,hi0,hz0,hzs,hzb⟩:=info_parts b9l;have hsrc:Src Try.prog i0.size 46 (.slice (some ⟨vb,0,none⟩) 1 vc) 1 vs w:=by
  rw [hzs];exact Src.ofSlice w Try.underlying46 ⟨vb,0,none⟩ 1 vc vs (by omega) (fun j u hj=>by rw [Addr.add_lit,Nat.zero_add];exact hvs j u hj) h1v
 have hold:(Builtin.firstCells i0.size n (.slice base n c)).run Try.prog w.drew = .ok cs.toArray w.drew:=by
  rw [hzs];cases base with
  | none =>
    have h0:=hnil rfl;subst h0;obtain rfl:cs=[]:=List.length_eq_zero_iff.1 (by simpa using hcl);exact run_firstCells_none w.drew 3 0 0 c
  | some a=>exact run_firstCells_some w.drew 3 n a n c cs hcl (fun j v hj=>hcs a rfl j v hj)
 have hrun : ∀ ty,(Builtin.append_ #[46,46] ty #[.slice base n c,.slice (some ⟨vb,0,none⟩) 1 vc]).run Try.prog w=_:=fun ty =>
  run_append_grow_src w 46 46 ty 63 i0 _ Try.underlying46 hi0 hz0 base n c cs hold _ 1 vs hsrc hroom (by omega) (by rw [hzb];exact growslice_fits hroom (by omega))
 go_enter Try.func91,Try.ntmps91
 cases base with
 | none =>
   have h0:=hnil rfl;subst h0
   go_wp2_with (at_builtin;refine Lib.wpList_append_run _ rfl _ _ _ _ rfl _ _ rfl rfl _ _ (hrun _) ?_)
   go_ret
   exact ⟨rfl,rfl⟩
 | some a =>
   obtain ⟨ab,ao,asp⟩:=a
   go_wp2_with (at_builtin;refine Lib.wpList_append_run _ rfl _ _ _ _ rfl _ _ rfl rfl _ _ (hrun _) ?_)
   all_goals (go_ret;exact ⟨rfl,rfl⟩)
end Go.Am

namespace Go.Am
open Go Go.Proofs Go.RowKit Go.Lib
set_option maxHeartbeats 4000000 in
set_option maxRecDepth 100000 in
theorem b3W (b n c i vb vc:Nat) (cs vs:List Value) (w:World) (hi:i<n) (hnc:n<=c) (hroom:c<n+1) (hbig:n<=1000000)
  (hcl:cs.length=n*3) (hvl:vs.length=3)
  (hcs : ∀ j v,cs[j]?=some v->w.cell? ⟨b,j,none⟩=some v)
  (hvs : ∀ j v,vs[j]?=some v->w.cell? ⟨vb,j,none⟩=some v) (h1c : ∀ v∈cs,v.oneCell'=true) (h1v : ∀ v∈vs,v.oneCell'=true) :
  Calls Try.prog 91 #[.slice (some ⟨b,0,none⟩) n c,.int .i64 i,.slice (some ⟨vb,0,none⟩) 1 vc] w fun e w' =>
   e = .returned (.slice (some ⟨w.heap.size,0,none⟩) (n+1) (grownCap w (n+1) c 63)) /\
   w'=(((w.alloc (.cells ((cs.take (i*3)).toArray++Builtin.zeroCells a9H.cells (n+1-i)++Builtin.zeroCells a9H.cells (grownCap w (n+1) c 63-(n+1))) 63)).drew.setCells w.heap.size (i*3) vs).drew).setCells w.heap.size ((i+1)*3) (cs.drop (i*3)):=by
 have t0:=Try.underlying0;have t3:=Try.underlying3;have t4:=Try.underlying4;have t46:=Try.underlying46;have t63:=Try.underlying63;have u0:=run_underlying Try.underlying0;have u3:=run_underlying Try.underlying3;have u4:=run_underlying Try.underlying4;have u46:=run_underlying Try.underlying46;have u63:=run_underlying Try.underlying63;have z63:=Try.sizeOf63;have mixed:=b8p;obtain ⟨i0,hi0,hz0,hzs,hzb⟩:=info_parts b9l;have hz2 : ¬ ((i:Int)=(n:Int)):=by omega
 have hz3:(c:Int)<(n:Int)+1:=by omega
 have hbw:b<w.heap.size:=block_lt_of_cell (hcs 0 _ (zp1 (by omega)));have hvw:vb<w.heap.size:=block_lt_of_cell (hvs 0 _ (zp1 (by omega)));have hkk:(n:Int)+1-(i:Int)=((n+1-i:Nat):Int):=by omega
 have hik:i+(n+1-i)=n+1:=by omega
 have hold:(Builtin.firstCells i0.size i (.slice (some ⟨b,0,none⟩) i c)).run Try.prog w.drew = .ok (cs.take (i*3)).toArray w.drew:=by
  rw [hzs];exact run_firstCells_some w.drew 3 i ⟨b,0,none⟩ i c (cs.take (i*3)) (by rw [List.length_take];omega) (fun j v hj=>by
   rw [Addr.add_lit,Nat.zero_add];rw [List.getElem?_take] at hj;split at hj
   ·exact hcs j v hj
   cases hj)
 have hrz : ∀ ty,(Builtin.append_ #[46,3] ty #[.slice (some ⟨b,0,none⟩) i c,.int .i64 ((n:Int)+1-(i:Int))]).run Try.prog w =
   .ok (.slice (some ⟨w.heap.size,0,none⟩) (n+1) (grownCap w (n+1) c 63)) (w.drew.alloc (.cells ((cs.take (i*3)).toArray++Builtin.zeroCells a9H.cells (n+1-i)++Builtin.zeroCells a9H.cells (grownCap w (n+1) c 63-(n+1))) 63)):=fun ty=>by
  have h:=Lib.run_append_grow_zeros w 46 3 ty 63 i0 _ .i64 .i64 Try.underlying46 Try.underlying3 hi0 hz0 (some ⟨b,0,none⟩) i c (cs.take (i*3)) hold (n+1-i) (by omega) (by omega) (by omega) (by omega) (by rw [hzb];omega) (by rw [hzb,hik];exact growslice_fits hroom (by omega));rw [hik] at h;rw [hkk];exact h
 obtain ⟨G,hG⟩ : ∃ G,G=grownCap w (n+1) c 63:=⟨_,rfl⟩;obtain ⟨ROW,hROW⟩ : ∃ ROW:Array Value,ROW=(cs.take (i*3)).toArray++Builtin.zeroCells a9H.cells (n+1-i)++Builtin.zeroCells a9H.cells (G-(n+1)):=⟨_,rfl⟩;rw [<-hG] at hrz ⊢;rw [<-hROW] at hrz ⊢;have hzc : ∀ q,(Builtin.zeroCells a9H.cells q).size=q*3:=fun q=>by simp [Builtin.zeroCells,Value.cells]
 have hRl:(n+1)*3<=ROW.size:=by
  rw [hROW];simp only [Array.size_append,hzc,List.size_toArray,List.length_take];omega
 obtain ⟨W1,hW1⟩ : ∃ W1,W1=w.drew.alloc (.cells ROW 63):=⟨_,rfl⟩;rw [<-hW1] at hrz;have hN : ∀ j,j<(n+1)*3->(W1.cell? ⟨w.heap.size,j,none⟩).isSome=true:=fun j hj=>by
  rw [hW1,World.cell?_alloc_at (w:=w.drew) ROW _ w.heap.size j rfl,Array.getElem?_eq_getElem (by omega)];rfl
 have hNf : ∀ j,W1.frozen? ⟨w.heap.size,j,none⟩=false:=fun j=>by rw [hW1];exact World.frozen?_alloc_at (w:=w.drew) ROW _ w.heap.size j rfl
 have hOb : ∀ j v,w.cell? ⟨b,j,none⟩=some v->W1.cell? ⟨b,j,none⟩=some v:=fun j v h=>by rw [hW1,World.cell?_alloc_past (w:=w.drew) _ b j hbw];exact h
 have hOv : ∀ j v,w.cell? ⟨vb,j,none⟩=some v->W1.cell? ⟨vb,j,none⟩=some v:=fun j v h=>by rw [hW1,World.cell?_alloc_past (w:=w.drew) _ vb j hvw];exact h
 have hdl:(cs.drop (i*3)).length=(n-i)*3:=by rw [List.length_drop,hcl];omega
 have hcpA : ∀ (W:World),(∀ x,W.cell? x=W1.cell? x)->(∀ x,W.frozen? x=W1.frozen? x) -> ∀ ty dc,(Builtin.copy_ #[46,46] ty #[.slice (some ⟨w.heap.size,i*3,none⟩) (n+1-i) dc,.slice (some ⟨vb,0,none⟩) 1 vc]).run Try.prog W = .ok (goInt 1) (W.setCells w.heap.size (i*3) vs):=fun W hWc hWf ty dc=>by
  have h:=a1E (P:=Try.prog) W 46 46 ty 63 w.heap.size (i*3) (n+1-i) dc ⟨vb,0,none⟩ 1 vc 3 vs Try.underlying46 Try.sizeOf63 (by rw [hvl];simp only [Nat.min_def];split <;> omega)
   (fun j v hj=>by rw [Addr.add_lit,hWc,Nat.zero_add];exact hOv _ v (hvs j v hj))
   (fun j hj=>by rw [hWc];exact hN _ (by rw [hvl] at hj;omega)) (fun j hj=>by rw [hWf];exact hNf _) h1v
  rwa [show Nat.min 1 (n+1-i)=1 by simp only [Nat.min_def];split <;> omega] at h
 have hGn:n+1<=G:=by rw [hG];exact grownCap_ge w _ _ _
 have hG63:G<=9223372036854775807:=by
  have:=grownCap_le_maxLen w (n+1) c 63 (by unfold maxLen;omega);rw [<-hG] at this;unfold maxLen at this;omega
 have hGi : ¬ (G=i):=by omega
 have hGim : ¬ (G=i+1):=by omega
 have hci : ¬ (c=i):=by omega
 have hbN:b≠w.heap.size:=by omega
 have hcpB : ∀ (W:World),(∀ x,W.cell? x=(W1.setCells w.heap.size (i*3) vs).cell? x)->(∀ x,W.frozen? x=(W1.setCells w.heap.size (i*3) vs).frozen? x) -> ∀ ty dc sc,(Builtin.copy_ #[46,46] ty #[.slice (some ⟨w.heap.size,(i+1)*3,none⟩) (n-i) dc,.slice (some ⟨b,i*3,none⟩) (n-i) sc]).run Try.prog W = .ok (goInt ((n-i:Nat):Int)) (W.setCells w.heap.size ((i+1)*3) (cs.drop (i*3))):=fun W hWc hWf ty dc sc=>by
  have h:=a1E (P:=Try.prog) W 46 46 ty 63 w.heap.size ((i+1)*3) (n-i) dc ⟨b,i*3,none⟩ (n-i) sc 3 (cs.drop (i*3)) Try.underlying46 Try.sizeOf63 (by rw [hdl];simp only [Nat.min_def];split <;> omega)
   (fun j v hj=>by
    rw [Addr.add_lit,hWc,World.cell?_setCells_out _ _ _ _ _ (fun h _=>absurd h hbN)];exact hOb _ v (hcs (i*3+j) v (by rwa [List.getElem?_drop] at hj)))
   (fun j hj=>by rw [hWc];exact isSome_setCells w.heap.size vs (i*3) W1 (fun t ht=>hN _ (by omega)) _ (hN _ (by rw [hdl] at hj;omega)))
   (fun j hj=>by rw [hWf,World.frozen?_setCells];exact hNf _) (fun v hv=>h1c v (List.mem_of_mem_drop hv))
  rwa [show Nat.min (n-i) (n-i)=n-i by simp only [Nat.min_def];split <;> omega] at h
 subst hW1;have hE1 : ∀ x,((w.alloc (.cells ROW 63)).drew).cell? x=(w.drew.alloc (.cells ROW 63)).cell? x:=fun x=>rfl;have hE2 : ∀ x,((w.alloc (.cells ROW 63)).drew).frozen? x=(w.drew.alloc (.cells ROW 63)).frozen? x:=fun x=>rfl;have hF1 : ∀ x,(((w.alloc (.cells ROW 63)).drew.setCells w.heap.size (i*3) vs).drew).cell? x=((w.drew.alloc (.cells ROW 63)).setCells w.heap.size (i*3) vs).cell? x:=fun x=>rfl;have hF2 : ∀ x,(((w.alloc (.cells ROW 63)).drew.setCells w.heap.size (i*3) vs).drew).frozen? x=((w.drew.alloc (.cells ROW 63)).setCells w.heap.size (i*3) vs).frozen? x:=fun x=>rfl;have hw1:IntKind.i64.wrap ((i:Int)+1)=(i:Int)+1:=by rw [IntKind.wrap_i64];omega
 have hw2:IntKind.i64.wrap ((n:Int)+1)=(n:Int)+1:=by rw [IntKind.wrap_i64];omega
 have hw3:IntKind.i64.wrap ((n:Int)+1-(i:Int))=(n:Int)+1-(i:Int):=by rw [IntKind.wrap_i64];omega
 have hb1:(0:Int)<=(i:Int)+1:=by omega
 have hin:i<=n:=by omega
 have htn:((i:Int)+1).toNat=i+1:=by omega
 have hb3:(i:Int)<=(n:Int):=by omega
 clear hkk hik hold hROW hG hRl
 go_enter Try.func91,Try.ntmps91
 go_wp2_with (first
  | (at_builtin;refine Lib.wpList_append_run _ rfl _ _ _ _ rfl _ _ rfl rfl _ _ (hrz _) ?_)
  | (at_builtin;refine wpList_copy_runI _ rfl _ _ 46 46 rfl _ _ rfl rfl (hcpA _ hE1 hE2 _ _) ?_)
  | (at_builtin;refine wpList_copy_runI _ rfl _ _ 46 46 rfl _ _ rfl rfl (hcpB _ (fun _=>rfl) (fun _=>rfl) _ _ _) ?_))
 go_region_law_o (refine step_copy_runI rfl _ _ 46 46 rfl (.slice (some ⟨w.heap.size,(i+1)*3,none⟩) (n-i) (G-(i+1))) (.slice (some ⟨b,i*3,none⟩) (n-i) (c-i)) (by simp [Act.eval,Act.put]) (by simp [Act.eval,Act.put]) (hcpB _ hF1 hF2 3 (G-(i+1)) (c-i)) ?_)
 go_wp2
 go_ret
 exact ⟨rfl,rfl⟩
end Go.Am

namespace Go.Am
open Go Go.Proofs Go.RowKit Go.Lib
theorem a1j (b:Nat) : ∀ (vs:List Value) (o:Nat) (w:World) (C:Array Value) (e:TypeId) (fz:Nat×Nat),w.heap[b]?=some (.cells C e fz)->o+vs.length<=C.size ->
  ∃ C',(w.setCells b o vs).heap[b]?=some (.cells C' e fz)/\C'.size=C.size /\ ∀ j,C'.getD j Go.undef=if o<=j/\j<o+vs.length then vs.getD (j-o) Go.undef else C.getD j Go.undef
 | [],o,w,C,e,fz,h,_=>⟨C,h,rfl,fun j=>by rw [if_neg (by rintro ⟨h1,h2⟩;simp only [List.length_nil] at h2;omega)]⟩
 | v::r,o,w,C,e,fz,h,hl=>by
   have h1:(w.setCell ⟨b,o,none⟩ v).heap[b]?=some (.cells (C.setIfInBounds o v) e fz):=by
    simp [World.setCell,Array.getElem?_modify,h]
   obtain ⟨C',h2,h3,h4⟩:=a1j b r (o+1) _ _ e fz h1 (by simp at hl ⊢;omega);refine ⟨C',h2,by rw [h3];simp,fun j => ?_⟩;rw [h4 j];simp only [List.length_cons];rcases Nat.lt_trichotomy j o with hj | rfl | hj
   ·rw [if_neg (by omega),if_neg (by omega)];simp only [zp5,Array.getElem?_setIfInBounds];rw [if_neg (by omega)]
   ·rw [if_neg (by omega),if_pos (by omega),Nat.sub_self];simp only [zp5,Array.getElem?_setIfInBounds];simp at hl;rw [if_pos trivial,if_pos (by omega)];rfl
   by_cases hb:j<o+(r.length+1)
   ·rw [if_pos (by omega),if_pos (by omega),show j-o=(j-(o+1))+1 by omega];rfl
   rw [if_neg (by omega),if_neg (by omega)];simp only [zp5,Array.getElem?_setIfInBounds];rw [if_neg (by omega)]
theorem a0Z (b:Nat) : ∀ (vs:List Value) (o:Nat) (w:World),(∀ b',b'≠b->(w.setCells b o vs).heap[b']?=w.heap[b']?)/\(w.setCells b o vs).heap.size=w.heap.size /\
  (w.setCells b o vs).os=w.os/\(w.setCells b o vs).output=w.output/\(w.setCells b o vs).tape=w.tape/\(w.setCells b o vs).drawn=w.drawn
 | [],o,w=>⟨fun _ _=>rfl,rfl,rfl,rfl,rfl,rfl⟩
 | v::r,o,w=>by
   obtain ⟨h1,h2,h3,h4,h5,h6⟩:=a0Z b r (o+1) (w.setCell ⟨b,o,none⟩ v);refine ⟨fun b' hb => ?_,?_,h3,h4,h5,h6⟩
   ·show ((w.setCell ⟨b,o,none⟩ v).setCells b (o+1) r).heap[b']?=_;rw [h1 b' hb];simp [World.setCell,Array.getElem?_modify,Ne.symm hb]
   show ((w.setCell ⟨b,o,none⟩ v).setCells b (o+1) r).heap.size=_;rw [h2];simp [World.setCell]
structure InsOut (w:World) (b n c:Nat) (xs:List Value) (e:Ending) (w':World):Prop where
 ex : ∃ (g c':Nat) (CG:Array Value) (eG:TypeId),e = .returned (.slice (some ⟨g,0,none⟩) (n+1) c')/\n+1<=c'/\(g=b/\0<c\/w.heap.size<=g)/\g<w'.heap.size/\w'.heap[g]?=some (.cells CG eG (0,0))/\c'*3<=CG.size /\
  (∀ j,j<(n+1)*3->CG.getD j Go.undef=xs.getD j Go.undef) /\ ∀ b',b'<w.heap.size->b'≠g->w'.heap[b']?=w.heap[b']?
 size:w.heap.size<=w'.heap.size
 io:w'.os=w.os/\w'.output=w.output/\(∀ a,a.block<w.heap.size->w'.frozen? a=w.frozen? a)/\w'.tape=w.tape/\w.drawn<=w'.drawn
theorem a4s (w:World) (C:Array Value) (e:TypeId) (a:Addr) (h:a.block<w.heap.size):(w.alloc (.cells C e)).frozen? a=w.frozen? a:=by
 unfold World.frozen?;simp only [World.alloc,Array.getElem?_push];rw [if_neg (by omega)]
theorem a9I {w:World} {b:Nat} {C:Array Value} {e:TypeId} (h:w.heap[b]?=some (.cells C e (0,0))) (j:Nat):w.frozen? ⟨b,j,none⟩=false:=by
 unfold World.frozen?;rw [h];simp
theorem cell_of {w:World} {b:Nat} {C:Array Value} {e:TypeId} {fz:Nat×Nat} (h:w.heap[b]?=some (.cells C e fz)) {j:Nat} (hj:j<C.size):w.cell? ⟨b,j,none⟩=some (C.getD j Go.undef):=by
 unfold World.cell?;rw [h];simp [zp5,Array.getElem?_eq_getElem hj]
end Go.Am

namespace Go.Am
open Go Go.Proofs Go.RowKit Go.Lib
theorem b4I (w:World) (C:Array Value) (e:TypeId):(w.alloc (.cells C e)).heap[w.heap.size]?=some (.cells C e (0,0)):=by
 show (w.heap.push _)[w.heap.size]?=_;exact Array.getElem?_push_size
theorem a8V (w:World) (C:Array Value) (e:TypeId):(w.alloc (.cells C e)).heap.size=w.heap.size+1:=by
 show (w.heap.push _).size=_;exact Array.size_push _
theorem b7P (w:World) (C:Array Value) (e:TypeId) {b:Nat} (h:b<w.heap.size):(w.alloc (.cells C e)).heap[b]?=w.heap[b]?:=by
 show (w.heap.push _)[b]?=_;rw [Array.getElem?_push,if_neg (by omega)]
set_option maxHeartbeats 2000000 in
theorem b5W {p:Option Addr} {n c i b vb vc:Nat} {CB CV:Array Value} {eB eV:TypeId} {w:World} (hi:i<=n) (hnc:n<=c) (hn:n<=1000000)
  (hp:0<c->p=some ⟨b,0,none⟩/\w.heap[b]?=some (.cells CB eB (0,0))/\c*3<=CB.size/\vb≠b)
  (hV:w.heap[vb]?=some (.cells CV eV (0,0))) (h3:3<=CV.size)
  (h1c : ∀ v∈CB.toList.take (n*3),v.oneCell'=true) (h1v : ∀ v∈CV.toList.take 3,v.oneCell'=true) :
  Calls Try.prog 91 #[.slice p n c,.int .i64 i,.slice (some ⟨vb,0,none⟩) 1 vc] w fun e w' =>
   InsOut w b n c ((CB.toList.take (n*3)).take (i*3)++CV.toList.take 3++(CB.toList.take (n*3)).drop (i*3)) e w':=by
 obtain ⟨vs,hvs⟩ : ∃ vs,vs=CV.toList.take 3:=⟨_,rfl⟩;obtain ⟨cs,hcs⟩ : ∃ cs,cs=CB.toList.take (n*3):=⟨_,rfl⟩;rw [<-hvs,<-hcs];rw [<-hcs] at h1c;rw [<-hvs] at h1v;have hvl:vs.length=3:=by rw [hvs,List.length_take,Array.length_toList];omega
 have hvc : ∀ j v,vs[j]?=some v->w.cell? ⟨vb,j,none⟩=some v:=fun j v h=>by
  rw [hvs,List.getElem?_take] at h;split at h
  ·rename_i hj;rw [cell_of hV (by omega),zp5];rw [Array.getElem?_toList] at h;rw [h];rfl
  cases h
 have hcl:cs.length=n*3:=by
  rcases Nat.eq_zero_or_pos c with h | h
  ·have:n=0:=by omega
   subst this;simp [hcs]
  have:=(hp h).2.2.1;rw [hcs,List.length_take,Array.length_toList];omega
 have hcc:0<c -> ∀ j v,cs[j]?=some v->w.cell? ⟨b,j,none⟩=some v:=fun h j v hj=>by
  obtain ⟨_,h1,h2,_⟩:=hp h;have hlt:=(zp2.1 hj).1;rw [hcs,List.getElem?_take] at hj;split at hj
  ·rw [cell_of h1 (by omega),zp5];rw [Array.getElem?_toList] at hj;rw [hj];rfl
  cases hj
 have hgc : ∀ j,j<n*3->cs.getD j Go.undef=CB.getD j Go.undef:=fun j hj=>by
  rw [hcs,List.getD_eq_getElem?_getD,List.getElem?_take,if_pos hj,Array.getElem?_toList,zp5]
 have gD : ∀ (a b2:List Value) (j:Nat),(a++b2).getD j Go.undef=if j<a.length then a.getD j Go.undef else b2.getD (j-a.length) Go.undef:=fun a b2 j=>by
  simp only [List.getD_eq_getElem?_getD,List.getElem?_append];split <;> rfl
 have gT : ∀ (a:List Value) (k j:Nat),j<k->(a.take k).getD j Go.undef=a.getD j Go.undef:=fun a k j h=>by
  simp only [List.getD_eq_getElem?_getD,List.getElem?_take];rw [if_pos h]
 have gR : ∀ (a:List Value) (k j:Nat),(a.drop k).getD j Go.undef=a.getD (k+j) Go.undef:=fun a k j=>by
  simp only [List.getD_eq_getElem?_getD,List.getElem?_drop]
 rcases Nat.lt_or_ge i n with hin | hin
 ·have hc0:0<c:=by omega
  obtain ⟨rfl,hB,hBs,hvb⟩:=hp hc0;have htl:(cs.take (i*3)).length=i*3:=by rw [List.length_take];omega
  have hxs : ∀ j,j<(n+1)*3->(cs.take (i*3)++vs++cs.drop (i*3)).getD j Go.undef=if j<i*3 then CB.getD j Go.undef else if j<i*3+3 then vs.getD (j-i*3) Go.undef else CB.getD (j-3) Go.undef:=fun j hj=>by
   rw [gD,gD,List.length_append,htl,hvl];by_cases h1:j<i*3
   ·rw [if_pos (by omega),if_pos h1,if_pos h1,gT _ _ _ h1,hgc _ (by omega)]
   by_cases h2:j<i*3+3
   ·rw [if_pos h2,if_neg h1,if_neg h1,if_pos h2]
   rw [if_neg h2,if_neg h1,if_neg h2,gR,hgc _ (by omega)];congr 1;omega
  rcases Nat.lt_or_ge c (n+1) with hroom | hroom
  ·refine (b3W b n c i vb vc cs vs w hin hnc hroom hn hcl hvl (hcc hc0) hvc h1c h1v).mono ?_;rintro e w' ⟨rfl,rfl⟩;obtain ⟨G,hG⟩ : ∃ G,G=grownCap w (n+1) c 63:=⟨_,rfl⟩;have hGn:n+1<=G:=by rw [hG];exact grownCap_ge w _ _ _
   rw [<-hG];obtain ⟨ROW,hROW⟩ : ∃ ROW:Array Value,ROW=(cs.take (i*3)).toArray++Builtin.zeroCells a9H.cells (n+1-i)++Builtin.zeroCells a9H.cells (G-(n+1)):=⟨_,rfl⟩;rw [<-hROW];have hzc : ∀ q,(Builtin.zeroCells a9H.cells q).size=q*3:=fun q=>by simp [Builtin.zeroCells,Value.cells]
   have hRs:ROW.size=G*3:=by
    rw [hROW];simp only [Array.size_append,hzc,List.size_toArray,List.length_take];omega
   have hRg : ∀ j,j<i*3->ROW.getD j Go.undef=CB.getD j Go.undef:=fun j hj=>by
    rw [<-hgc j (by omega),<-gT cs (i*3) j hj,hROW,zp5,Array.getElem?_append,if_pos (by rw [Array.size_append,List.size_toArray,htl];omega),Array.getElem?_append,if_pos (by rw [List.size_toArray,htl];omega),List.getElem?_toArray,List.getD_eq_getElem?_getD]
   have hdl:(cs.drop (i*3)).length=(n-i)*3:=by rw [List.length_drop,hcl];omega
   obtain ⟨W0,hW0⟩ : ∃ W0,W0=(w.alloc (.cells ROW 63)).drew:=⟨_,rfl⟩;rw [<-hW0];have hnew:W0.heap[w.heap.size]?=some (.cells ROW 63 (0,0)):=by
    rw [hW0];exact b4I w ROW 63
   have hold : ∀ b',b'<w.heap.size->W0.heap[b']?=w.heap[b']?:=fun b' hb'=>by
    rw [hW0];exact b7P w ROW 63 hb'
   have hs0:W0.heap.size=w.heap.size+1:=by
    rw [hW0];exact a8V w ROW 63
   obtain ⟨C1,q1,q2,q3⟩:=a1j w.heap.size vs (i*3) W0 ROW 63 (0,0) hnew (by rw [hRs,hvl];omega);have f1:=a0Z w.heap.size vs (i*3) W0;obtain ⟨C2,r1,r2,r3⟩:=a1j w.heap.size (cs.drop (i*3)) ((i+1)*3) (W0.setCells w.heap.size (i*3) vs).drew C1 63 (0,0) q1 (by rw [q2,hRs,hdl];omega);have f2:=a0Z w.heap.size (cs.drop (i*3)) ((i+1)*3) (W0.setCells w.heap.size (i*3) vs).drew;have hsz:((W0.setCells w.heap.size (i*3) vs).drew.setCells w.heap.size ((i+1)*3) (cs.drop (i*3))).heap.size=w.heap.size+1:=by rw [f2.2.1];exact f1.2.1.trans hs0
   refine ⟨⟨w.heap.size,G,C2,63,rfl,hGn,.inr (Nat.le_refl _),by rw [hsz];omega,r1,by rw [r2,q2,hRs];exact Nat.le_refl _,fun j hj => ?_,fun b' hb' hne => ?_⟩,by rw [hsz];omega,?_⟩
   ·rw [r3,q3,hdl,hvl,hxs j hj,gR];by_cases h1:j<i*3
    ·rw [if_neg (by omega),if_neg (by omega),if_pos h1,hRg j h1]
    by_cases h2:j<i*3+3
    ·rw [if_neg (by omega),if_pos (by omega),if_neg h1,if_pos h2]
    rw [if_pos (by omega),if_neg h1,if_neg h2,hgc _ (by omega)];congr 1;omega
   ·rw [f2.1 _ hne];exact (f1.1 _ hne).trans (hold b' hb')
   refine ⟨f2.2.2.1.trans (f1.2.2.1.trans (by rw [hW0];rfl)),f2.2.2.2.1.trans (f1.2.2.2.1.trans (by rw [hW0];rfl)),fun a ha => ?_,f2.2.2.2.2.1.trans (f1.2.2.2.2.1.trans (by rw [hW0];rfl)),?_⟩
   ·rw [World.frozen?_setCells];show (W0.setCells w.heap.size (i*3) vs).frozen? a=_;rw [World.frozen?_setCells,hW0];exact a4s w ROW 63 a ha
   rw [f2.2.2.2.2.2];show w.drawn<=(W0.setCells w.heap.size (i*3) vs).drawn+1;rw [f1.2.2.2.2.2,hW0];show w.drawn<=w.drawn+1+1;omega
  have hsb:w.shape? b=some (eB,CB.size):=by unfold World.shape?;rw [hB]
  have hsv:w.shape? vb=some (eV,CV.size):=by unfold World.shape?;rw [hV]
  refine (b2H b n c i vb vc cs vs w hin hroom hn hvb hcl hvl (hcc hc0) (fun j hj=>by rw [cell_of hB (by omega)];rfl) (fun j=>a9I hB j) hvc h1c h1v eV eB CV.size CB.size hsv hsb (by omega) (a9I hV 0) (a9I hV _)).mono ?_;rintro e w' ⟨rfl,rfl⟩;have hdl:(cs.drop (i*3)).length=(n-i)*3:=by rw [List.length_drop,hcl];omega
  obtain ⟨C1,q1,q2,q3⟩:=a1j b (cs.drop (i*3)) ((i+1)*3) w.drew CB eB (0,0) hB (by omega);obtain ⟨C2,r1,r2,r3⟩:=a1j b vs (i*3) _ C1 eB (0,0) q1 (by omega);have f1:=a0Z b (cs.drop (i*3)) ((i+1)*3) w.drew;have f2:=a0Z b vs (i*3) (w.drew.setCells b ((i+1)*3) (cs.drop (i*3)));have hsz:((w.drew.setCells b ((i+1)*3) (cs.drop (i*3))).setCells b (i*3) vs).heap.size=w.heap.size:=by rw [f2.2.1,f1.2.1];rfl
  have hbl:b<w.heap.size:=(Array.getElem?_eq_some_iff.1 hB).1;refine ⟨⟨b,c,C2,eB,rfl,hroom,.inl ⟨rfl,hc0⟩,by rw [hsz];exact hbl,r1,by rw [r2,q2];exact hBs,fun j hj => ?_,fun b' hb' hne => ?_⟩,by rw [hsz];exact Nat.le_refl _,?_⟩
  ·rw [r3,q3,hdl,hvl,hxs j hj,gR];by_cases h1:j<i*3
   ·rw [if_neg (by omega),if_neg (by omega),if_pos h1]
   by_cases h2:j<i*3+3
   ·rw [if_pos (by omega),if_neg h1,if_pos h2]
   rw [if_neg (by omega),if_pos (by omega),if_neg h1,if_neg h2,hgc _ (by omega)];congr 1;omega
  ·rw [f2.1 _ hne,f1.1 _ hne];rfl
  refine ⟨by rw [f2.2.2.1,f1.2.2.1];rfl,by rw [f2.2.2.2.1,f1.2.2.2.1];rfl,fun a ha=>by rw [World.frozen?_setCells,World.frozen?_setCells];rfl,by rw [f2.2.2.2.2.1,f1.2.2.2.2.1];rfl,by rw [f2.2.2.2.2.2,f1.2.2.2.2.2];exact Nat.le_succ _⟩
 obtain rfl:i=n:=by omega
 have htk:cs.take (i*3)=cs:=List.take_of_length_le (by omega);have hdr:cs.drop (i*3)=[]:=List.drop_eq_nil_of_le (by omega);rw [htk,hdr,List.append_nil];have hxs : ∀ j,j<(i+1)*3->(cs++vs).getD j Go.undef=if j<i*3 then CB.getD j Go.undef else vs.getD (j-i*3) Go.undef:=fun j hj=>by
  rw [gD,hcl];by_cases h1:j<i*3
  ·rw [if_pos h1,if_pos h1,hgc _ h1]
  rw [if_neg h1,if_neg h1]
 rcases Nat.lt_or_ge c (i+1) with hroom | hroom
 ·refine (a8j p i c vb vc cs vs w hnc hroom hn hcl hvl (fun e => ?_) (fun a ha j v hj => ?_) hvc h1v).mono ?_
  ·rcases Nat.eq_zero_or_pos c with h | h
   ·omega
   rw [(hp h).1] at e;cases e
  ·rcases Nat.eq_zero_or_pos c with h | h
   ·have:=(zp2.1 hj).1;omega
   rw [(hp h).1] at ha;cases ha;rw [Addr.add_lit,Nat.zero_add];exact hcc h j v hj
  rintro e w' ⟨rfl,rfl⟩;obtain ⟨G,hG⟩ : ∃ G,G=grownCap w (i+1) c 63:=⟨_,rfl⟩;have hGn:i+1<=G:=by rw [hG];exact grownCap_ge w _ _ _
  rw [<-hG];obtain ⟨ROW,hROW⟩ : ∃ ROW:Array Value,ROW=(cs++vs).toArray++Builtin.zeroCells a9H.cells (G-(i+1)):=⟨_,rfl⟩;rw [<-hROW];have hzc : ∀ q,(Builtin.zeroCells a9H.cells q).size=q*3:=fun q=>by simp [Builtin.zeroCells,Value.cells]
  have hRs:ROW.size=G*3:=by
   rw [hROW];simp only [Array.size_append,hzc,List.size_toArray,List.length_append];omega
  refine ⟨⟨w.heap.size,G,ROW,63,rfl,hGn,.inr (Nat.le_refl _),by rw [a8V w.drew ROW 63];exact Nat.lt_succ_self _,b4I w.drew ROW 63,by rw [hRs];exact Nat.le_refl _,fun j hj => ?_,fun b' hb' hne=>b7P w.drew ROW 63 hb'⟩,by rw [a8V w.drew ROW 63];exact Nat.le_succ _,?_⟩
  ·rw [hROW,zp5,Array.getElem?_append,if_pos (by rw [List.size_toArray,List.length_append];omega),List.getElem?_toArray,List.getD_eq_getElem?_getD]
  exact ⟨rfl,rfl,fun a ha=>a4s w.drew ROW 63 a ha,rfl,Nat.le_succ _⟩
 have hc0:0<c:=by omega
 obtain ⟨rfl,hB,hBs,hvb⟩:=hp hc0;refine (a8i b i c vb vc vs w hroom hn hvl (fun j hj=>by rw [cell_of hB (by omega)];rfl) (fun j=>a9I hB j) hvc h1v).mono ?_;rintro e w' ⟨rfl,rfl⟩;obtain ⟨C1,q1,q2,q3⟩:=a1j b vs (i*3) w CB eB (0,0) hB (by omega);have f1:=a0Z b vs (i*3) w;have hbl:b<w.heap.size:=(Array.getElem?_eq_some_iff.1 hB).1;refine ⟨⟨b,c,C1,eB,rfl,hroom,.inl ⟨rfl,hc0⟩,by rw [f1.2.1];exact hbl,q1,by rw [q2];exact hBs,fun j hj => ?_,fun b' hb' hne=>f1.1 _ hne⟩,by rw [f1.2.1];exact Nat.le_refl _,⟨f1.2.2.1,f1.2.2.2.1,fun a ha=>World.frozen?_setCells _ _ _ _ _,f1.2.2.2.2.1,by rw [f1.2.2.2.2.2];exact Nat.le_refl _⟩⟩;rw [q3,hvl,hxs j hj];by_cases h1:j<i*3
 ·rw [if_neg (by omega),if_pos h1]
 rw [if_pos (by omega),if_neg h1]
end Go.Am

namespace Go.Am
open Go Go.Proofs
theorem Rel.ofH {G:Gh} {H:List Obj} {w:World} (h:RelH G H w):Rel G { env:=[],heap:=H,n:=0 } { tmps := #[],defers:=[] } w :=
 ⟨h,rfl,fun t => .undef _ _,fun t r off e=>(by simp [St.get,a1O] at e),⟨by simp,fun d hd=>by simp at hd⟩⟩
theorem b0u:callable Try.prog 91=true:=by kernel_rfl
def a9J (K:Addr->Option Value) (ds:List D) (vs:List Value):Prop:=ds.length=vs.length /\ ∀ (j:Nat) (d:D) (v:Value),ds[j]?=some d->vs[j]?=some v->v.oneCell'=true/\RepD K d v
theorem a9J.append {K:Addr->Option Value} {a b:List D} {u v:List Value} (h:a9J K a u) (h':a9J K b v):a9J K (a++b) (u++v):=by
 refine ⟨by rw [List.length_append,List.length_append,h.1,h'.1],fun j d x hd hx => ?_⟩;rw [List.getElem?_append] at hd hx;rw [<-h.1] at hx;split at hd
 ·rename_i hj;rw [if_pos hj] at hx;exact h.2 j d x hd hx
 rename_i hj;rw [if_neg hj] at hx;exact h'.2 _ d x hd hx
theorem a9J.take {K:Addr->Option Value} {a:List D} {u:List Value} (h:a9J K a u) (k:Nat):a9J K (a.take k) (u.take k):=by
 refine ⟨by rw [List.length_take,List.length_take,h.1],fun j d x hd hx => ?_⟩;rw [List.getElem?_take] at hd hx;split at hd
 ·rename_i hj;rw [if_pos hj] at hx;exact h.2 j d x hd hx
 cases hd
theorem a9J.drop {K:Addr->Option Value} {a:List D} {u:List Value} (h:a9J K a u) (k:Nat):a9J K (a.drop k) (u.drop k):=by
 refine ⟨by rw [List.length_drop,List.length_drop,h.1],fun j d x hd hx => ?_⟩;rw [List.getElem?_drop] at hd hx;exact h.2 _ d x hd hx
theorem b2I {K:Addr->Option Value} {l:List D} {C:Array Value} (hs:(D.flat l:List D).length<=C.size) (h1 : ∀ j,j<(D.flat l).length->(C.getD j Go.undef).oneCell'=true)
  (h2 : ∀ (j:Nat) (hj:j<(D.flat l).length),RepD K (D.flat l)[j] (C.getD j Go.undef)):a9J K (D.flat l) (C.toList.take (D.flat l).length):=by
 have hs':(D.flat l).length<=C.toList.length:=by rw [Array.length_toList];exact hs
 refine ⟨by rw [List.length_take];exact (Nat.min_eq_left hs').symm,fun j d v hd hv => ?_⟩;have hj:=(zp2.1 hd).1;rw [List.getElem?_take,if_pos hj,Array.getElem?_toList] at hv;have e:C.getD j Go.undef=v:=by rw [zp5,hv];rfl
 rw [zp1 hj] at hd;cases hd;rw [<-e];exact ⟨h1 j hj,h2 j hj⟩
theorem a0m.ins {H:List Obj} {a q:Nat} {y:List D} {x:D} {z:Int} (ha:H[a]?=some (.gro 3 y)) (hq:H[q]?=some (.gro 3 [x])) (hne:a≠q) (h0:0<=z) (hz:z<=y.length) (hn:y.length<=1000000)
  (hin:a0u (H.set a Obj.dead++[Obj.gro 3 (y.take z.toNat++x::y.drop z.toNat),Obj.dead,Obj.dead]).length (H.set a .dead++[.gro 3 (y.take z.toNat++x::y.drop z.toNat),.dead,.dead])=true) :
  a0m Try.prog 91 [.gref a 3,.d (.int .i64 z),.gref q 3] H (.gref H.length 3) (H.set a .dead++[.gro 3 (y.take z.toNat++x::y.drop z.toNat),.dead,.dead]):=by
 refine ⟨b0u,rfl,by simp [AV.inb],hin,by simp,fun N G w vs hvs hrep RH hO => ?_⟩;obtain ⟨v0,v1,v2,rfl⟩ : ∃ v0 v1 v2,vs = #[v0,v1,v2]:=by
  match vs,hvs with
  | ⟨[x,y,z]⟩,_=>exact ⟨x,y,z,rfl⟩
 have r0:=hrep 0 (by simp);have r1:=hrep 1 (by simp);have r2:=hrep 2 (by simp);simp at r0 r1 r2;cases r0 with | gref _ _ _ p0 _ _ hp0 =>
 cases r2 with | gref _ _ _ p2 _ _ hp2 =>
 cases r1 with | d _ _ _ hd =>
 cases hd;obtain ⟨a1,a2,a3,a4,a5⟩:=RH.objs a _ ha;obtain ⟨b1,b2,b3,b4,b5⟩:=RH.objs q _ hq;simp only [List.length_singleton] at b2 b3;obtain ⟨CV,eV,c1,c2,c3,c4,c5⟩:=b5 (by omega);rw [<-b2,hp2 (by omega),<-a2];have hx3:x.cells.length=3:=b4 x (by simp);have hfy:(D.flat y).length=y.length*3:=a0b a4;have hf1:D.flat [x]=x.cells:=by simp [D.flat]
 obtain ⟨i,rfl⟩ : ∃ i:Nat,z=i:=⟨z.toNat,by omega⟩;have hi:i<=y.length:=by omega
 obtain ⟨CB,eB,hB⟩ : ∃ (CB:Array Value) (eB:TypeId),0<G.β (.o (a+1))->G.O (G.β (.o a))=some (.o a,0)/\w.heap[G.β (.o a)]?=some (.cells CB eB (0,0))/\G.β (.o (a+1))*3<=CB.size /\
   (∀ j,j<(D.flat y).length->(CB.getD j Go.undef).oneCell'=true) /\ ∀ (j:Nat) (hj:j<(D.flat y).length),RepD G.K (D.flat y)[j] (CB.getD j Go.undef):=by
  rcases Nat.eq_zero_or_pos (G.β (.o (a+1))) with h | h
  ·exact ⟨#[],0,fun h'=>by omega⟩
  obtain ⟨CB,eB,h⟩:=a5 h;exact ⟨CB,eB,fun _=>h⟩
 have LY:a9J G.K (D.flat y) (CB.toList.take (y.length*3)):=by
  rw [<-hfy];rcases Nat.eq_zero_or_pos (G.β (.o (a+1))) with h | h
  ·have hy:y=[]:=List.length_eq_zero_iff.1 (by omega);subst hy;exact ⟨by simp [D.flat],fun j d v hd=>by simp [D.flat] at hd⟩
  obtain ⟨_,_,h3,h4,h5⟩:=hB h;exact b2I (by rw [hfy];have:=Nat.mul_le_mul_right 3 a3;omega) h4 h5
 have LX:a9J G.K x.cells (CV.toList.take 3):=by
  have:=b2I (l:=[x]) (C:=CV) (K:=G.K) (by rw [hf1,hx3];omega) c4 c5
  rwa [hf1,hx3] at this
 have hcall:=b5W (p:=p0) (n:=y.length) (c:=G.β (.o (a+1))) (i:=i) (b:=G.β (.o a)) (vb:=G.β (.o q)) (vc:=G.β (.o (q+1))) (CB:=CB) (CV:=CV) (eB:=eB) (eV:=eV) (w:=w) hi a3 hn
  (fun hc=>by
   obtain ⟨h1,h2,h3,_⟩:=hB hc;refine ⟨hp0 hc,h2,h3,fun e => ?_⟩;rw [e] at c1;rw [h1] at c1;injection c1 with c1;injection c1 with c1;injection c1 with c1
   exact hne c1)
  c2 (by omega)
  (fun v hv=>by
   obtain ⟨j,hj⟩:=List.mem_iff_getElem?.1 hv;have hl:=(zp2.1 hj).1;rw [<-LY.1] at hl;exact (LY.2 j _ v (zp1 hl) hj).1)
  (fun v hv=>by
   obtain ⟨j,hj⟩:=List.mem_iff_getElem?.1 hv;have hl:=(zp2.1 hj).1;rw [<-LX.1] at hl;exact (LX.2 j _ v (zp1 hl) hj).1)
 have hw:CallsIn Fence.wide N Try.prog 91 _ w _:=callsIn_wide.2 hcall;refine CallsIn.mono (F:=Wd none) hw ?_;rintro e w' ⟨⟨g,c',CG,eG,rfl,q1,q2,q3,q4,q5,q6,q7⟩,hsz,hio⟩;have hL:a9J G.K (D.flat (y.take i++x::y.drop i)) ((CB.toList.take (y.length*3)).take (i*3)++CV.toList.take 3++(CB.toList.take (y.length*3)).drop (i*3)):=by
  have e1:D.flat (y.take i++x::y.drop i)=(D.flat y).take (i*3)++x.cells++(D.flat y).drop (i*3):=by
   rw [show y.take i++x::y.drop i=y.take i++[x]++y.drop i by simp,a0w,a0w,a0P a4,a1m a4,hf1]
  rw [e1];exact ((LY.take _).append LX).append (LY.drop _)
 have hlen:(y.take i++x::y.drop i).length=y.length+1:=by
  rw [List.length_append,List.length_take,List.length_cons,List.length_drop];omega
 have hu:a0j 3 (y.take i++x::y.drop i):=by
  intro t ht;rcases List.mem_append.1 ht with h | h
  ·exact a4 t (List.mem_of_mem_take h)
  rcases List.mem_cons.1 h with rfl | h
  ·exact hx3
  exact a4 t (List.mem_of_mem_drop h)
 have hfl:(D.flat (y.take i++x::y.drop i)).length=(y.length+1)*3:=by rw [a0b hu,hlen]
 have R1:=(Rel.ofH RH).kill a;obtain ⟨R2,hE,hr⟩:=R1.toGro (w':=w') (k:=3) (l:=y.take i++x::y.drop i) (cap:=c') (b:=g) (p:=some ⟨g,0,none⟩) (fun _=>rfl) hu (by rw [hlen];exact q1) hsz hio
  (fun b' h1 h2=>q7 b' h1 (h2 (by omega)))
  (fun hc=>by
   refine ⟨q3,?_,CG,eG,q4,q5,fun j hj => ?_,fun j hj => ?_⟩
   ·rcases q2 with ⟨rfl,h⟩ | h
    ·refine .inr ⟨.o a,(hB h).1,?_⟩;show (H.set a .dead)[a]?=some .dead;rw [List.getElem?_set_self (zp2.1 ha).1]
    exact .inl h
   ·rw [q6 j (by omega)];have hl:j<((CB.toList.take (y.length*3)).take (i*3)++CV.toList.take 3++(CB.toList.take (y.length*3)).drop (i*3)).length:=by rw [<-hL.1];exact hj
    rw [List.getD_eq_getElem?_getD,zp1 hl];exact (hL.2 j _ _ (zp1 hj) (zp1 hl)).1
   rw [q6 j (by omega)];have hl:j<((CB.toList.take (y.length*3)).take (i*3)++CV.toList.take 3++(CB.toList.take (y.length*3)).drop (i*3)).length:=by rw [<-hL.1];exact hj
   rw [List.getD_eq_getElem?_getD,zp1 hl];exact (hL.2 j _ _ (zp1 hj) (zp1 hl)).2)
 have hln:(H.set a .dead).length=H.length:=List.length_set;refine ⟨_,_,rfl,?_,R2.h,?_⟩
 ·have:=hr .ret;rw [hlen] at this;simp only [hln] at this;simp only [hln,hlen];exact this
 exact hE _ (by rw [RH.nh];exact Nat.le_refl _)
end Go.Am
