/- Own text: D1ga. -/
import Derived.Test.YtalfdjihejohoaaD1xd
set_option maxRecDepth 100000
set_option linter.unusedVariables false
set_option linter.unusedSimpArgs false
namespace Go.Am
open Go Go.Proofs
theorem costR_ok (c:List (List Int)) (l:List Fen) (hc : ∀ r∈c,∀ n∈r,0<=n/\n<=9) (hl:l.length<=1000000000) (hin : ∀ f∈l,inCost c f):ACall P 95 [.d (dCost c),.d (.list 2 (l.map dFen))] [] (AI (costF c l)) []:=by
 unfold dCost
 obtain ⟨C,hC⟩ : ∃ X,c.map dRow=X:=⟨_,rfl⟩
 obtain ⟨L,hL⟩ : ∃ X,l.map dFen=X:=⟨_,rfl⟩
 obtain ⟨n,hn⟩ : ∃ n:Int,(L.length:Int)=n:=⟨_,rfl⟩
 have hln:(l.length:Int)=n:=by rw [<-hn,<-hL];simp
 rw [hC,hL]
 refine ACall.enter hT (fn:=Try.f95) Try.func95 rfl (by decide) (by simp [Try.f95]) rfl rfl rfl rfl (Nat.le_refl _) ?_
 repeat refine AWp.seq ?_
 refine AWp.reg1 {} hT (fun A hA=>by cbv) (Nat.zero_le _) ?_
 try dsimp only [AExit.then,AExit.block]
 repeat refine AWp.seq ?_
 refine AWp.reg1 {} hT (fun A hA=>by cbv) (Nat.zero_le _) ?_
 try dsimp only [AExit.then,AExit.block]
 repeat refine AWp.seq ?_
 refine AWp.reg1 {} hT (fun A hA=>by
   have f0:=ar_len hA L n hn
   repeat (cbv;simp only [f0])
   cbv) (Nat.zero_le _) ?_
 try dsimp only [AExit.then,AExit.block]
 refine AWp.block (AWp.loopInv (ι:=Int×Int) (fun p=>0<=p.1/\p.1<=n/\p.2=costF c (l.take p.1.toNat)/\0<=p.2/\p.2<=p.1*9) (fun p=>(n-p.1).toNat) [0,5,8,9,10]
  (fun p=>{ env:=[(0,.d (.list 1 C)),(5,AI p.2),(8,.d (.list 2 L)),(9,AI n),(10,AI p.1)],heap:=[],n:=27 }) (0,0) (by cbv) ⟨Int.le_refl _,by dsimp only;omega,by simp [costF],by simp,by simp⟩ ?_)
 rintro ⟨z,s⟩ ⟨h0,h1,h2,h3,h4⟩
 dsimp only at *
 by_cases hz:z<n
 ·obtain ⟨⟨t,g⟩,hf⟩ : ∃ s,l[z.toNat]?=some s:=⟨_,zp1 (by omega)⟩
  have hLz:L[z.toNat]?=some (.agg [I t,I g]):=by rw [<-hL,List.getElem?_map,hf];rfl
  obtain ⟨q0,q1,r,hr,hg⟩:=hin _ (List.mem_of_getElem? hf)
  dsimp only at q0 q1 hr hg
  obtain ⟨R,hR⟩ : ∃ R,r.map I=R:=⟨_,rfl⟩
  have hCt:C[t.toNat]?=some (.list 1 R):=by rw [<-hC,List.getElem?_map,hr,<-hR];rfl
  obtain ⟨v,hv⟩ : ∃ v,r[g.toNat]?=some v:=⟨_,zp1 hg⟩
  have hRg:R[g.toNat]?=some (I v):=by rw [<-hR,List.getElem?_map,hv];rfl
  have hv9:=hc r (List.mem_of_getElem? hr) v (List.mem_of_getElem? hv)
  have hstep:=costF_step c l z.toNat (t,g) hf
  have hpv:priceF c (t,g)=v:=by
   unfold priceF
   rw [List.getD_eq_getElem?_getD,List.getD_eq_getElem?_getD,hr]
   simp only [Option.getD_some,hv]
  obtain ⟨z1,hz1⟩ : ∃ z1,z+1=z1:=⟨_,rfl⟩
  obtain ⟨s1,hs1⟩ : ∃ z1,s+v=z1:=⟨_,rfl⟩
  rw [hpv,<-h2,hs1,show z.toNat+1=z1.toNat by omega] at hstep
  repeat refine AWp.seq ?_
  refine AWp.reg1 {} hT (fun A hA=>by
    have f0:=ar_lt hA hz
    repeat (cbv;simp only [f0])
    cbv) (Nat.zero_le _) ?_
  try dsimp only [AExit.then,AExit.block]
  repeat refine AWp.seq ?_
  refine AWp.cond (b:=true) rfl (AWp.skip ?_)
  try dsimp only [AExit.then,AExit.block]
  repeat refine AWp.seq ?_
  refine AWp.block ?_
  repeat refine AWp.seq ?_
  refine AWp.reg1 {} hT (fun A hA=>by
    have f0:=ar_get hA hLz
    have f1:=ar_le hA h0
    repeat (cbv;simp only [f0,f1])
    cbv) (Nat.zero_le _) ?_
  try dsimp only [AExit.then,AExit.block]
  repeat refine AWp.seq ?_
  refine AWp.reg1D {} hT rfl (fun A hA=>by
    have f0:=ar_get hA hCt
    have f1:=ar_le hA q0
    have f2:=ar_get hA hRg
    have f3:=ar_le hA q1
    have f4:=ar_add hA s v s1 hs1 (by omega) (by omega)
    repeat (cbv;simp only [f0,f1,f2,f3,f4])
    cbv) (by kernel_rfl) (Nat.zero_le _) ?_
  try dsimp only [AExit.then,AExit.block]
  repeat refine AWp.seq ?_
  refine AWp.reg1 {} hT (fun A hA=>by
    have f0:=ar_add hA z 1 z1 hz1 (by omega) (by omega)
    repeat (cbv;simp only [f0])
    cbv) (Nat.zero_le _) ?_
  try dsimp only [AExit.then,AExit.block]
  exact ⟨(z1,s1),⟨by dsimp only;omega,by dsimp only;omega,hstep.symm,by dsimp only;omega,by dsimp only;omega⟩,by dsimp only;omega,by cbv⟩
 ·rw [List.take_of_length_le (by omega)] at h2
  subst h2
  obtain ⟨S,hS⟩ : ∃ S,costF c l=S:=⟨_,rfl⟩
  rw [hS]
  repeat refine AWp.seq ?_
  refine AWp.reg1 {} hT (fun A hA=>by
    have f0:=ar_nlt hA hz
    repeat (cbv;simp only [f0])
    cbv) (Nat.zero_le _) ?_
  try dsimp only [AExit.then,AExit.block]
  repeat refine AWp.seq ?_
  refine AWp.cond (b:=false) rfl (AWp.exit ?_)
  try dsimp only [AExit.then,AExit.block]
  rw [if_pos rfl]
  repeat refine AWp.seq ?_
  refine AWp.reg1 {} hT (fun A hA=>by cbv) (Nat.zero_le _) ?_
  try dsimp only [AExit.then,AExit.block]
  repeat refine AWp.seq ?_
  refine AWp.ret ⟨?_,rfl,rfl,Nat.zero_le _,_,rfl⟩
  rfl
theorem mem_fencesL {x:List (List Acc)} {f:Fen}:f∈fencesL x↔0<=f.1/\f.1<(x.length:Int)/\0<=f.2/\f.2<rl x f.1-1:=by
 unfold fencesL fenT fenRow rl
 simp only [List.mem_flatMap,List.mem_range,List.mem_map]
 constructor
 ·rintro ⟨t,ht,g,hg,rfl⟩
  refine ⟨by simp,by simp;omega,by simp,?_⟩
  simp only [Int.toNat_natCast]
  omega
 ·obtain ⟨t,g⟩:=f
  rintro ⟨h1,h2,h3,h4⟩
  dsimp only at *
  exact ⟨t.toNat,by omega,g.toNat,by omega,by simp;omega⟩
theorem priced_row {x:List (List Acc)} {c:List (List Int)} (h:pricedB x c=true):c.length=x.length /\ ∀ t r,c[t]?=some r->r.length=(x.getD t []).length-1 /\ ∀ n∈r,1<=n/\n<=9:=by
 unfold pricedB at h
 rw [zp4,List.all_eq_true,decide_eq_true_eq] at h
 refine ⟨h.2,fun t r hr => ?_⟩
 have ht:=(zp2.1 hr).1
 have:=h.1 t (by simpa using ht)
 unfold prAt in19 at this
 rw [List.getD_eq_getElem?_getD (l:=c),hr] at this
 simp only [Option.getD_some,zp4,decide_eq_true_eq,List.all_eq_true] at this
 exact ⟨this.1.2,this.2⟩
theorem inCost_of {x:List (List Acc)} {c:List (List Int)} {f:Fen} (hp:pricedB x c=true) (hf:f∈fencesL x):inCost c f:=by
 obtain ⟨h1,h2,h3,h4⟩:=mem_fencesL.1 hf
 obtain ⟨g1,g2⟩:=priced_row hp
 refine ⟨h1,h3,c[f.1.toNat]'(by omega),zp1 _,?_⟩
 rw [(g2 _ _ (zp1 (by omega))).1]
 unfold rl at h4
 omega
theorem priced_09 {x:List (List Acc)} {c:List (List Int)} (hp:pricedB x c=true) : ∀ r∈c,∀ n∈r,0<=n/\n<=9:=by
 intro r hr n hn
 obtain ⟨i,hi,rfl⟩:=List.getElem_of_mem hr
 have:=((priced_row hp).2 i _ (zp1 hi)).2 n hn
 omega
end Go.Am

namespace Go.Am
open Go Go.Proofs
theorem heldR_ok (l:List Fen) (s:Sta) (hl:l.length<=1000000000):ACall P 90 [.d (.list 2 (l.map dFen)),.d (dSta s)] [] (AB (heldF l s)) []:=by
 have ch:=fun f=>holdsR_ok f s
 obtain ⟨F,hF⟩ : ∃ F,heldF l s=F:=⟨_,rfl⟩
 rw [hF]
 unfold heldF at hF
 obtain ⟨L,hL⟩ : ∃ X,l.map dFen=X:=⟨_,rfl⟩
 obtain ⟨n,hn⟩ : ∃ n:Int,(L.length:Int)=n:=⟨_,rfl⟩
 have hln:(l.length:Int)=n:=by rw [<-hn,<-hL];simp
 rw [hL]
 obtain ⟨p,hp⟩ : ∃ p:Fen->Bool,(fun f=>holdsF f s)=p:=⟨_,rfl⟩
 have hpf : ∀ f,holdsF f s=p f:=fun f=>by rw [<-hp]
 rw [hp] at hF
 simp only [hpf] at ch
 obtain ⟨t,a,b⟩:=s
 unfold dSta at *
 dsimp only at *
 refine ACall.enter hT (fn:=Try.f90) Try.func90 rfl (by decide) (by simp [Try.f90]) rfl rfl rfl rfl (Nat.le_refl _) ?_
 repeat refine AWp.seq ?_
 refine AWp.reg1 {} hT (fun A hA=>by cbv) (Nat.zero_le _) ?_
 try dsimp only [AExit.then,AExit.block]
 repeat refine AWp.seq ?_
 refine AWp.reg1 {} hT (fun A hA=>by
   have f0:=ar_len hA L n hn
   repeat (cbv;simp only [f0])
   cbv) (Nat.zero_le _) ?_
 try dsimp only [AExit.then,AExit.block]
 refine AWp.block (AWp.loopInv (ι:=Int) (fun z=>0<=z/\z<=n /\ ∀ f∈l.take z.toNat,p f=false) (fun z=>(n-z).toNat) [3,7,8,9]
  (fun z=>{ env:=[(3,.lbox [AI t,AI a,AI b]),(7,.d (.list 2 L)),(8,AI n),(9,AI z)],heap:=[],n:=17 }) 0 (by cbv) ⟨Int.le_refl _,by omega,by simp⟩ ?_)
 rintro z ⟨h0,h1,h2⟩
 by_cases hz:z<n
 ·obtain ⟨f,hf⟩ : ∃ s,l[z.toNat]?=some s:=⟨_,zp1 (by omega)⟩
  have hLz:L[z.toNat]?=some (dFen f):=by rw [<-hL,List.getElem?_map,hf];rfl
  have c1:=ch f
  obtain ⟨r,hr⟩ : ∃ r,p f=r:=⟨_,rfl⟩
  rw [hr] at c1
  obtain ⟨z1,hz1⟩ : ∃ z1,z+1=z1:=⟨_,rfl⟩
  have hstep:r=false -> ∀ f∈l.take z1.toNat,p f=false:=fun h f hf'=>by
   rw [show z1.toNat=z.toNat+1 by omega,List.take_add_one,hf] at hf'
   simp only [Option.toList_some,List.mem_append,List.mem_singleton] at hf'
   rcases hf' with hf' | rfl
   ·exact h2 f hf'
   ·rw [hr,h]
  have hyes:r=true->F=true:=fun h=>by rw [<-hF,List.any_eq_true];exact ⟨f,List.mem_of_getElem? hf,by rw [hr,h]⟩
  obtain ⟨u,g⟩:=f
  unfold dFen at hLz c1
  dsimp only at hLz c1
  repeat refine AWp.seq ?_
  refine AWp.reg1 {} hT (fun A hA=>by
    have f0:=ar_lt hA hz
    repeat (cbv;simp only [f0])
    cbv) (Nat.zero_le _) ?_
  try dsimp only [AExit.then,AExit.block]
  repeat refine AWp.seq ?_
  refine AWp.cond (b:=true) rfl (AWp.skip ?_)
  try dsimp only [AExit.then,AExit.block]
  repeat refine AWp.seq ?_
  refine AWp.block ?_
  repeat refine AWp.seq ?_
  refine AWp.reg1 {} hT (fun A hA=>by
    have f0:=ar_get hA hLz
    have f1:=ar_le hA h0
    repeat (cbv;simp only [f0,f1])
    cbv) (Nat.zero_le _) ?_
  try dsimp only [AExit.then,AExit.block]
  repeat refine AWp.seq ?_
  refine AWp.region ?_
  refine AOps.stepCall hT (an:={}) (fun A hA=>by cbv) (Nat.zero_le _) rfl (.inr rfl) rfl rfl rfl (Nat.le_of_ble_eq_true rfl) rfl rfl (c1) ?_
  refine AOps.done hT (an:={}) (fun A hA=>by cbv) (Nat.zero_le _) ?_
  try dsimp only [AExit.then,AExit.block]
  cases r with
  | true =>
    obtain rfl:=hyes rfl
    repeat refine AWp.seq ?_
    refine AWp.cond (b:=true) rfl ?_
    rw [if_pos rfl]
    repeat refine AWp.seq ?_
    refine AWp.reg1 {} hT (fun A hA=>by cbv) (Nat.zero_le _) ?_
    try dsimp only [AExit.then,AExit.block]
    repeat refine AWp.seq ?_
    refine AWp.ret ⟨?_,rfl,rfl,Nat.zero_le _,_,rfl⟩
    rfl
  | false =>
    repeat refine AWp.seq ?_
    refine AWp.cond (b:=false) rfl (AWp.skip ?_)
    try dsimp only [AExit.then,AExit.block]
    repeat refine AWp.seq ?_
    refine AWp.reg1 {} hT (fun A hA=>by
      have f0:=ar_add hA z 1 z1 hz1 (by omega) (by omega)
      repeat (cbv;simp only [f0])
      cbv) (Nat.zero_le _) ?_
    try dsimp only [AExit.then,AExit.block]
    exact ⟨z1,⟨by omega,by omega,hstep rfl⟩,by omega,by cbv⟩
 ·rw [List.take_of_length_le (by omega)] at h2
  rw [List.any_eq_false.2 (fun f hf=>by rw [h2 f hf];decide)] at hF
  subst hF
  repeat refine AWp.seq ?_
  refine AWp.reg1 {} hT (fun A hA=>by
    have f0:=ar_nlt hA hz
    repeat (cbv;simp only [f0])
    cbv) (Nat.zero_le _) ?_
  try dsimp only [AExit.then,AExit.block]
  repeat refine AWp.seq ?_
  refine AWp.cond (b:=false) rfl (AWp.exit ?_)
  try dsimp only [AExit.then,AExit.block]
  rw [if_pos rfl]
  repeat refine AWp.seq ?_
  refine AWp.reg1 {} hT (fun A hA=>by cbv) (Nat.zero_le _) ?_
  try dsimp only [AExit.then,AExit.block]
  repeat refine AWp.seq ?_
  refine AWp.ret ⟨?_,rfl,rfl,Nat.zero_le _,_,rfl⟩
  rfl
theorem enoughR_ok (l:List Fen) (q:List Sta) (hl:l.length<=1000000000) (hq:q.length<=1000000000):ACall P 92 [.d (.list 2 (l.map dFen)),.d (.list 3 (q.map dSta))] [] (AB (enoughF l q)) []:=by
 have ch:=fun s=>heldR_ok l s hl
 obtain ⟨F,hF⟩ : ∃ F,enoughF l q=F:=⟨_,rfl⟩
 rw [hF]
 unfold enoughF at hF
 obtain ⟨L,hL⟩ : ∃ X,l.map dFen=X:=⟨_,rfl⟩
 obtain ⟨Q,hQ⟩ : ∃ X,q.map dSta=X:=⟨_,rfl⟩
 obtain ⟨n,hn⟩ : ∃ n:Int,(Q.length:Int)=n:=⟨_,rfl⟩
 have hln:(q.length:Int)=n:=by rw [<-hn,<-hQ];simp
 rw [hL,hQ]
 simp only [hL] at ch
 obtain ⟨p,hp⟩ : ∃ p:Sta->Bool,heldF l=p:=⟨_,rfl⟩
 rw [hp] at hF ch
 refine ACall.enter hT (fn:=Try.f92) Try.func92 rfl (by decide) (by simp [Try.f92]) rfl rfl rfl rfl (Nat.le_refl _) ?_
 repeat refine AWp.seq ?_
 refine AWp.reg1 {} hT (fun A hA=>by cbv) (Nat.zero_le _) ?_
 try dsimp only [AExit.then,AExit.block]
 repeat refine AWp.seq ?_
 refine AWp.reg1 {} hT (fun A hA=>by
   have f0:=ar_len hA Q n hn
   repeat (cbv;simp only [f0])
   cbv) (Nat.zero_le _) ?_
 try dsimp only [AExit.then,AExit.block]
 refine AWp.block (AWp.loopInv (ι:=Int) (fun z=>0<=z/\z<=n /\ ∀ f∈q.take z.toNat,p f=true) (fun z=>(n-z).toNat) [0,7,8,9]
  (fun z=>{ env:=[(0,.d (.list 2 L)),(7,.d (.list 3 Q)),(8,AI n),(9,AI z)],heap:=[],n:=18 }) 0 (by cbv) ⟨Int.le_refl _,by omega,by simp⟩ ?_)
 rintro z ⟨h0,h1,h2⟩
 by_cases hz:z<n
 ·obtain ⟨f,hf⟩ : ∃ s,q[z.toNat]?=some s:=⟨_,zp1 (by omega)⟩
  have hLz:Q[z.toNat]?=some (dSta f):=by rw [<-hQ,List.getElem?_map,hf];rfl
  have c1:=ch f
  obtain ⟨r,hr⟩ : ∃ r,p f=r:=⟨_,rfl⟩
  rw [hr] at c1
  obtain ⟨z1,hz1⟩ : ∃ z1,z+1=z1:=⟨_,rfl⟩
  have hstep:r=true -> ∀ f∈q.take z1.toNat,p f=true:=fun h f hf'=>by
   rw [show z1.toNat=z.toNat+1 by omega,List.take_add_one,hf] at hf'
   simp only [Option.toList_some,List.mem_append,List.mem_singleton] at hf'
   rcases hf' with hf' | rfl
   ·exact h2 f hf'
   ·rw [hr,h]
  have hyes:r=false->F=false:=fun h=>by rw [<-hF,List.all_eq_false];exact ⟨f,List.mem_of_getElem? hf,by rw [hr,h];decide⟩
  obtain ⟨t,a,b⟩:=f
  unfold dSta at hLz c1
  dsimp only at hLz c1
  repeat refine AWp.seq ?_
  refine AWp.reg1 {} hT (fun A hA=>by
    have f0:=ar_lt hA hz
    repeat (cbv;simp only [f0])
    cbv) (Nat.zero_le _) ?_
  try dsimp only [AExit.then,AExit.block]
  repeat refine AWp.seq ?_
  refine AWp.cond (b:=true) rfl (AWp.skip ?_)
  try dsimp only [AExit.then,AExit.block]
  repeat refine AWp.seq ?_
  refine AWp.block ?_
  repeat refine AWp.seq ?_
  refine AWp.reg1 {} hT (fun A hA=>by
    have f0:=ar_get hA hLz
    have f1:=ar_le hA h0
    repeat (cbv;simp only [f0,f1])
    cbv) (Nat.zero_le _) ?_
  try dsimp only [AExit.then,AExit.block]
  repeat refine AWp.seq ?_
  refine AWp.region ?_
  refine AOps.stepCall hT (an:={}) (fun A hA=>by cbv) (Nat.zero_le _) rfl (.inr rfl) rfl rfl rfl (Nat.le_of_ble_eq_true rfl) rfl rfl (c1) ?_
  refine AOps.done hT (an:={}) (fun A hA=>by cbv) (Nat.zero_le _) ?_
  try dsimp only [AExit.then,AExit.block]
  cases r with
  | false =>
    obtain rfl:=hyes rfl
    repeat refine AWp.seq ?_
    refine AWp.cond (b:=true) rfl ?_
    rw [if_pos rfl]
    repeat refine AWp.seq ?_
    refine AWp.reg1 {} hT (fun A hA=>by cbv) (Nat.zero_le _) ?_
    try dsimp only [AExit.then,AExit.block]
    repeat refine AWp.seq ?_
    refine AWp.ret ⟨?_,rfl,rfl,Nat.zero_le _,_,rfl⟩
    rfl
  | true =>
    repeat refine AWp.seq ?_
    refine AWp.cond (b:=false) rfl (AWp.skip ?_)
    try dsimp only [AExit.then,AExit.block]
    repeat refine AWp.seq ?_
    refine AWp.reg1 {} hT (fun A hA=>by
      have f0:=ar_add hA z 1 z1 hz1 (by omega) (by omega)
      repeat (cbv;simp only [f0])
      cbv) (Nat.zero_le _) ?_
    try dsimp only [AExit.then,AExit.block]
    exact ⟨z1,⟨by omega,by omega,hstep rfl⟩,by omega,by cbv⟩
 ·rw [List.take_of_length_le (by omega)] at h2
  rw [List.all_eq_true.2 h2] at hF
  subst hF
  repeat refine AWp.seq ?_
  refine AWp.reg1 {} hT (fun A hA=>by
    have f0:=ar_nlt hA hz
    repeat (cbv;simp only [f0])
    cbv) (Nat.zero_le _) ?_
  try dsimp only [AExit.then,AExit.block]
  repeat refine AWp.seq ?_
  refine AWp.cond (b:=false) rfl (AWp.exit ?_)
  try dsimp only [AExit.then,AExit.block]
  rw [if_pos rfl]
  repeat refine AWp.seq ?_
  refine AWp.reg1 {} hT (fun A hA=>by cbv) (Nat.zero_le _) ?_
  try dsimp only [AExit.then,AExit.block]
  repeat refine AWp.seq ?_
  refine AWp.ret ⟨?_,rfl,rfl,Nat.zero_le _,_,rfl⟩
  rfl
end Go.Am

namespace Go.Am
open Go Go.Proofs
def thAt (n:Nat) (l:List Int) (i:Nat):Bool:=(decide (0<=l.getD i 0)&&decide (l.getD i 0<=(n:Int)-1)) && !(l.take i).contains (l.getD i 0)
def threadsB (n:Nat) (l:List Int):Bool:=(List.range l.length).all (thAt n l)&&decide (l.length=n)
end Go.Am
